/- A part of the proof of AllocateSettles: AcA AcB AcAlA AcAlI AcAlD AcAlE AcAlG AcAlF AcD AcC AcE AcAlH AcAlJ. No condition. -/
import Derived.Test.YteopfmnnhlhbmaaHs12
import Derived.Test.YteopfmnnhlhbmaaProg
set_option linter.unusedSimpArgs false
set_option linter.unusedVariables false
set_option linter.constructorNameAsVariable false
set_option maxRecDepth 100000
set_option maxHeartbeats 4000000
namespace Go.Proofs.Yteopfmnnhlhbmaa
open Go.RowKit
/-! optimizer.numbers-/
/-! lower.Uses-/
abbrev QL:List AO:=
 [o1 1 (.bx 60 0 (.t 0)),o1 2 (.mv (.c .sl0)),o1 3 (.mv (ci 0))]
abbrev QK:List AO:=
 [o1 6 (.fa 0 (.t 1)),o1 7 (.ld 1 false (.t 6)),
  (o2 8 88 [.t 7]),o1 4 (.al 104 [.b false,.b false,.b false,.b false]),
  (o3 (.st 4 (.t 4) (.t 8)))]
abbrev QJ:List AO:=
 [o1 5 (.mv (.c .sl0))]
abbrev QI:List AO:=
 [o1 9 (.fa 2 (.t 4)),o1 10 (.ld 1 false (.t 9))]
abbrev QH:List AO:=
 [(mt 11 5),o1 12 (.fa 2 (.t 1)),o1 13 (.ld 1 false (.t 12)),o1 14 (.bs 3 1 1 [.n .i64 0] [(0,1,(.t 13))]),o1 15 (.app 3 1 8 (.t 11) (.t 14)),
  (mt 5 15)]
abbrev QG:List AO:=
 [o1 16 (.fa 3 (.t 4)),o1 17 (.ld 1 false (.t 16))]
abbrev QF:List AO:=
 [(mt 18 5),o1 19 (.fa 3 (.t 1)),o1 20 (.ld 1 false (.t 19)),o1 21 (.bs 3 1 1 [.n .i64 0] [(0,1,(.t 20))]),o1 22 (.app 3 1 8 (.t 18) (.t 21)),
  (mt 5 22)]
abbrev QE:List AO:=
 [o1 23 (.fa 1 (.t 4)),o1 24 (.ld 1 false (.t 23)),o1 25 (.un .not (.t 24))]
abbrev QD:List AO:=
 [(mt 26 5),
  (mt 2 26),o1 3 (.mv (.c (.n .i64 (-1))))]
abbrev QN:List (Nat×AO):=
 [(2,(mt 27 5)),(2,(o1 28 (.fa 1 (.t 1)))),
  (2,(mt 2 27)),(1,(o1 29 (.ld 1 false (.t 28)))),
  (2,(mt 3 29))]
abbrev x1F:AF:=⟨30,(.seq (.reg QL) (.seq (.reg QK) (.seq (.reg QJ) (.seq (.seq (.reg QI) (.cond (.t 10) (.reg QH) .skip)) (.seq (.seq (.reg QG) (.cond (.t 17) (.reg QF) .skip)) (.seq (.seq (.reg QE) (.cond (.t 25) (.seq (.reg QD) .ret) .skip)) (.seq (.mix QN) .ret))))))),[.mv (.t 2),.mv (.t 3)]⟩
theorem QM:bJ Try.prog (aK Try.prog 68) 68=some x1F:=by kernel_rfl
/-! lower.shape-/
/-! optimizer.written-/
/-! optimizer.source-/
/-! slices.Index[[]optimizer.known,optimizer.known]-/
/-! slices.Contains[[]optimizer.known,optimizer.known]-/
/-! slices.IndexFunc[[]optimizer.known,optimizer.known]-/
/-! optimizer.numbers$1-/
/-! optimizer.both[optimizer.known]-/
/-! optimizer.without[optimizer.known]-/
/-! optimizer.without[optimizer.known]$1-/
/-! slices.ContainsFunc[[]api.RegInstr,api.RegInstr]-/
/-! slices.IndexFunc[[]api.RegInstr,api.RegInstr]-/
/-! optimizer.arithmetic-/
/-! optimizer.folded-/
/-! optimizer.fold$1-/
/-! optimizer.fold$2-/
/-! optimizer.pairs-/
/-! optimizer.walk[optimizer.known]-/
/-! optimizer.fold-/
/-! optimizer.checked-/
/-! optimizer.copied-/
/-! optimizer.Fold-/
/-! compactorref24.writes-/
/-! compactorref24.copyKnown-/
/-! compactorref24.forget-/
/-! compactorref24.bothKnown-/
/-! compactorref24.folded-/
/-! compactorref24.Fold-/
/-! compactorref23.Uses-/
abbrev Qq:List AO:=
 [o1 1 (.bx 60 0 (.t 0)),o1 2 (.mv (.c .sl0)),o1 3 (.mv (ci 0))]
abbrev Qp:List AO:=
 [o1 10 (.fa 0 (.t 1)),o1 11 (.ld 1 false (.t 10)),
  (o2 12 82 [.t 11]),
  (mt 9 12),o1 13 (.ext 0 (.t 9)),o1 14 (.ext 1 (.t 9)),o1 15 (.ext 2 (.t 9)),o1 16 (.ext 3 (.t 9)),
  (mt 4 13),
  (mt 5 14),
  (mt 6 15),
  (mt 7 16)]
abbrev Qo:List AO:=
 [o1 8 (.mv (.c .sl0))]
abbrev Qn:List AO:=
 [(mt 17 5)]
abbrev Qm:List AO:=
 [(mt 18 8),o1 19 (.fa 2 (.t 1)),o1 20 (.ld 1 false (.t 19)),o1 21 (.bs 3 1 1 [.n .i64 0] [(0,1,(.t 20))]),o1 22 (.app 3 1 8 (.t 18) (.t 21)),
  (mt 8 22)]
abbrev Ql:List AO:=
 [(mt 23 6)]
abbrev Qk:List AO:=
 [(mt 24 8),o1 25 (.fa 3 (.t 1)),o1 26 (.ld 1 false (.t 25)),o1 27 (.bs 3 1 1 [.n .i64 0] [(0,1,(.t 26))]),o1 28 (.app 3 1 8 (.t 24) (.t 27)),
  (mt 8 28)]
abbrev Qj:List AO:=
 [(mt 29 4)]
abbrev Qs:List (Nat×AO):=
 [(2,(mt 30 8)),(2,(o1 31 (.fa 1 (.t 1)))),
  (2,(mt 2 30)),(1,(o1 32 (.ld 1 false (.t 31)))),
  (2,(mt 3 32))]
abbrev Qi:List AO:=
 [(mt 33 8),
  (mt 2 33),o1 3 (.mv (.c (.n .i64 (-1))))]
abbrev x2F:AF:=⟨34,(.seq (.reg Qq) (.seq (.reg Qp) (.seq (.reg Qo) (.seq (.seq (.reg Qn) (.cond (.t 17) (.reg Qm) .skip)) (.seq (.seq (.reg Ql) (.cond (.t 23) (.reg Qk) .skip)) (.seq (.seq (.reg Qj) (.cond (.t 29) (.seq (.mix Qs) .ret) .skip)) (.seq (.reg Qi) .ret))))))),[.mv (.t 2),.mv (.t 3)]⟩
theorem Qr:bJ Try.prog (aK Try.prog 57) 57=some x2F:=by kernel_rfl
/-! compactorref23.Parts-/
/-! slices.Clone[[]api.Array,api.Array]-/
abbrev P6:List AO:=
 [o1 2 (.mv (.c .sl0))]
abbrev P5:List AO:=
 [(mt 3 0),⟨some 4,none,.sn false (.t 3)⟩]
abbrev P4:List AO:=
 [o1 2 (.mv (.c .sl0))]
abbrev P3:List AO:=
 [o1 5 (.bs 102 2 0 [] []),
  (mt 6 0),o1 7 (.app 102 2 16 (.t 5) (.t 6)),
  (mt 2 7)]
abbrev x3F:AF:=⟨8,(.seq (.reg P6) (.seq (.seq (.reg P5) (.cond (.t 4) (.seq (.reg P4) .ret) .skip)) (.seq (.reg P3) .ret))),[.mv (.t 2)]⟩
theorem P7:bJ Try.prog (aK Try.prog 75) 75=some x3F:=by kernel_rfl
/-! slices.Clone[[]api.RegInstr,api.RegInstr]-/
abbrev PZ:List AO:=
 [o1 2 (.mv (.c .sl0))]
abbrev PY:List AO:=
 [(mt 3 0),⟨some 4,none,.sn false (.t 3)⟩]
abbrev PW:List AO:=
 [o1 2 (.mv (.c .sl0))]
abbrev PV:List AO:=
 [o1 5 (.bs 60 5 0 [] []),
  (mt 6 0),o1 7 (.app 60 5 40 (.t 5) (.t 6)),
  (mt 2 7)]
abbrev x4F:AF:=⟨8,(.seq (.reg PZ) (.seq (.seq (.reg PY) (.cond (.t 4) (.seq (.reg PW) .ret) .skip)) (.seq (.reg PV) .ret))),[.mv (.t 2)]⟩
theorem P0:bJ Try.prog (aK Try.prog 29) 29=some x4F:=by kernel_rfl
/-! compactorref23.Same-/
abbrev PP:List AO:=
 [o1 2 (.bx 25 0 (.t 0)),o1 3 (.bx 25 0 (.t 1)),o1 4 (.mv (.c (.b false)))]
abbrev PO:List AO:=
 [o1 6 (.fa 1 (.t 2)),o1 7 (.ld 1 false (.t 6)),o1 8 (.fa 1 (.t 3)),o1 9 (.ld 1 false (.t 8)),o1 10 (.bin .neq (.t 7) (.t 9)),
  (mt 11 10),
  (o4 12 11 (.fa 2 (.t 2))),
  (o4 13 11 (.ld 1 false (.t 12))),
  (o4 14 11 (.fa 2 (.t 3))),
  (o4 15 11 (.ld 1 false (.t 14))),
  (o4 16 11 (.bin .neq (.t 13) (.t 15))),o1 17 (.pick (.t 11) (.c (.b true)) (.t 16)),
  (mt 18 17),
  (o4 19 18 (.fa 0 (.t 2))),
  (o4 20 18 (.ld 1 false (.t 19))),
  (o4 21 18 (.fa 0 (.t 3))),
  (o4 22 18 (.ld 1 false (.t 21))),⟨some 23,some (18,false),.cl (.c (.f 51 [] [])) [.t 20,.t 22]⟩,
  (o4 24 18 (.un .not (.t 23))),o1 25 (.pick (.t 18) (.c (.b true)) (.t 24)),
  (mt 26 25),
  (o4 27 26 (.fa 3 (.t 2))),
  (o4 28 26 (.ld 1 false (.t 27))),
  (o4 29 26 (.len (.t 28))),
  (o4 30 26 (.fa 3 (.t 3))),
  (o4 31 26 (.ld 1 false (.t 30))),
  (o4 32 26 (.len (.t 31))),
  (o4 33 26 (.bin .neq (.t 29) (.t 32))),o1 34 (.pick (.t 26) (.c (.b true)) (.t 33))]
abbrev PN:List AO:=
 [o1 4 (.mv (.c (.b false)))]
abbrev PL:List AO:=
 [o1 5 (.mv (ci 0))]
abbrev PK:List AO:=
 [(mt 35 5),o1 36 (.fa 3 (.t 2)),o1 37 (.ld 1 false (.t 36)),o1 38 (.len (.t 37)),o1 39 (.bin .lss (.t 35) (.t 38))]
abbrev PQ:List (Nat×AO):=
 [(2,(o1 42 (.fa 3 (.t 2)))),
  (2,(mt 44 5)),(2,(o1 47 (.fa 3 (.t 3)))),
  (2,(mt 49 5)),(1,(o1 43 (.ld 1 false (.t 42)))),(2,(o1 45 (.ia 5 (.t 43) (.t 44)))),(1,(o1 46 (.ld 5 true (.t 45)))),(1,(o1 48 (.ld 1 false (.t 47)))),(2,(o1 50 (.ia 5 (.t 48) (.t 49)))),(1,(o1 51 (.ld 5 true (.t 50)))),(2,(o1 52 (.eq true (.st [(0,1,.n),(1,1,.n),(2,1,.n),(3,1,.n),(4,1,.n)]) (.t 46) (.t 51))))]
abbrev PJ:List AO:=
 [o1 4 (.mv (.c (.b false)))]
abbrev PS:AC:=
 (.seq (.mix PQ) (.cond (.t 52) (.seq (.reg PJ) .ret) .skip))
abbrev PH:List AO:=
 [(mt 40 5),o1 41 (.bin .add (.t 40) (ci 1)),
  (mt 5 41)]
abbrev PU:AC:=
 (.seq (.seq (.reg PK) (.cond (.t 39) .skip (.exit 0))) (.seq (.block 1 PS) (.reg PH)))
abbrev I9:AC:=
 (.loop PU)
abbrev I7:List AO:=
 [o1 4 (.mv (.c (.b true)))]
abbrev x5F:AF:=⟨53,(.seq (.reg PP) (.seq (.seq (.reg PO) (.cond (.t 34) (.seq (.reg PN) .ret) .skip)) (.seq (.seq (.reg PL) (.block 0 I9)) (.seq (.reg I7) .ret)))),[.mv (.t 4)]⟩
theorem I8:bJ Try.prog (aK Try.prog 19) 19=some x5F:=by kernel_rfl
/-! compactorref15.SameArrays-/
abbrev PB:List AO:=
 [o1 4 (.mv (.c (.b false)))]
abbrev PA:List AO:=
 [(mt 6 0),o1 7 (.len (.t 6)),
  (mt 8 1),o1 9 (.len (.t 8)),o1 10 (.bin .neq (.t 7) (.t 9))]
abbrev Pz:List AO:=
 [o1 4 (.mv (.c (.b false)))]
abbrev Py:List AO:=
 [o1 5 (.mv (ci 0))]
abbrev Px:List AO:=
 [(mt 11 5),
  (mt 12 0),o1 13 (.len (.t 12)),o1 14 (.bin .lss (.t 11) (.t 13))]
abbrev PD:List (Nat×AO):=
 [(2,(mt 17 0)),
  (2,(mt 18 5)),(2,(o1 19 (.ia 2 (.t 17) (.t 18)))),
  (2,(mt 21 1)),
  (2,(mt 22 5)),(2,(o1 23 (.ia 2 (.t 21) (.t 22)))),(1,(o1 20 (.ld 2 true (.t 19)))),(1,(o1 24 (.ld 2 true (.t 23)))),(2,(o1 25 (.eq true (.st [(0,1,.b),(1,1,.n)]) (.t 20) (.t 24))))]
abbrev Pw:List AO:=
 [o1 4 (.mv (.c (.b false)))]
abbrev PF:AC:=
 (.seq (.mix PD) (.cond (.t 25) (.seq (.reg Pw) .ret) .skip))
abbrev Pv:List AO:=
 [(mt 15 5),o1 16 (.bin .add (.t 15) (ci 1)),
  (mt 5 16)]
abbrev PG:AC:=
 (.seq (.seq (.reg Px) (.cond (.t 14) .skip (.exit 0))) (.seq (.block 1 PF) (.reg Pv)))
abbrev I6:AC:=
 (.loop PG)
abbrev I5:List AO:=
 [o1 4 (.mv (.c (.b true)))]
abbrev x6F:AF:=⟨26,(.seq (.reg PB) (.seq (.seq (.reg PA) (.cond (.t 10) (.seq (.reg Pz) .ret) .skip)) (.seq (.seq (.reg Py) (.block 0 I6)) (.seq (.reg I5) .ret)))),[.mv (.t 4)]⟩
theorem PC:bJ Try.prog (aK Try.prog 51) 51=some x6F:=by kernel_rfl
/-! compactorref24.Few-/
/-! compactorref23.Few-/
abbrev Pt:List AO:=
 [o1 1 (.bx 25 0 (.t 0)),o1 2 (.mv (.c (.b false)))]
abbrev Ps:List AO:=
 [o1 3 (.fa 0 (.t 1)),o1 4 (.ld 1 false (.t 3)),o1 5 (.len (.t 4)),o1 6 (.bin .leq (.t 5) (ci 20)),
  (mt 7 6),
  (o5 8 7 (.fa 3 (.t 1))),
  (o5 9 7 (.ld 1 false (.t 8))),
  (o5 10 7 (.len (.t 9))),
  (o5 11 7 (.bin .leq (.t 10) (ci 300))),o1 12 (.pick (.t 7) (.t 11) (.c (.b false))),
  (mt 2 12)]
abbrev x7F:AF:=⟨13,(.seq (.reg Pt) (.seq (.reg Ps) .ret)),[.mv (.t 2)]⟩
theorem Pu:bJ Try.prog (aK Try.prog 33) 33=some x7F:=by kernel_rfl
/-! compactorlaw24.OptimizerFolds-/
/-! lower.shapes-/
/-! optimizer.Copies-/
/-! optimizer.copies-/
/-! optimizer.walk[optimizer.same]-/
/-! optimizer.copies$1-/
/-! optimizer.copies$2-/
/-! optimizer.without[optimizer.same]-/
/-! optimizer.both[optimizer.same]-/
/-! optimizer.without[optimizer.same]$1-/
/-! slices.Contains[[]optimizer.same,optimizer.same]-/
/-! slices.Index[[]optimizer.same,optimizer.same]-/
/-! compactorref24.Copies-/
/-! compactorref24.source-/
/-! compactorref24.withoutSources-/
/-! compactorref24.bothSources-/
/-! compactorref24.only-/
/-! compactorref23.Copy-/
/-! compactorlaw24.OptimizerCopies-/
/-! allocate.blocks-/
abbrev Pp:List AO:=
 [o1 2 (.mv (.c (.cv (.map none))))]
abbrev Po:List AO:=
 [⟨some 14,none,.mo (.mm)⟩,
  (mt 3 14)]
abbrev Pn:List AO:=
 [o1 4 (.mv (.c .sl0)),o1 5 (.mv (.c .sl0))]
abbrev Pm:List AO:=
 [o1 6 (.mv (.c .sl0))]
abbrev Pk:List AO:=
 [(mt 15 0),o1 16 (.len (.t 15)),o1 17 (.mv (ci 0))]
abbrev Pj:List AO:=
 [o1 18 (.bin .lss (.t 17) (.t 16))]
abbrev Ph:List AO:=
 [(mt 19 17),o1 20 (.ia 5 (.t 15) (.t 17)),o1 21 (.ld 5 true (.t 20)),o1 8 (.al 60 [.n .i64 0,.n .i64 0,.n .i64 0,.n .i64 0,.n .u32 0]),
  (mt 7 19),
  (o3 (.st 5 (.t 8) (.t 21)))]
abbrev Pg:List AO:=
 [o1 22 (.fa 0 (.t 8)),o1 23 (.ld 1 false (.t 22))]
abbrev Pf:List AO:=
 [o1 25 (.bin .eql (.t 23) (ci 27)),
  (mt 24 25)]
abbrev Pe:List AO:=
 [o1 26 (.bin .eql (.t 23) (ci 29)),
  (mt 24 26)]
abbrev IW:List AO:=
 [(mt 27 4),
  (mt 28 7),o1 29 (.bs 3 1 1 [.n .i64 0] [(0,1,(.t 28))]),o1 30 (.app 3 1 8 (.t 27) (.t 29)),
  (mt 31 5),
  (mt 32 7),o1 33 (.bs 3 1 1 [.n .i64 0] [(0,1,(.t 32))]),o1 34 (.app 3 1 8 (.t 31) (.t 33)),
  (mt 35 6),o1 36 (.bs 39 1 1 [.sl0] [(0,1,(.c .sl0))]),o1 37 (.app 39 1 24 (.t 35) (.t 36)),
  (mt 4 30),
  (mt 5 34),
  (mt 6 37)]
abbrev IV:List AO:=
 [o1 39 (.bin .eql (.t 23) (ci 28)),
  (mt 38 39)]
abbrev IU:List AO:=
 [(mt 40 4),o1 41 (.len (.t 40)),o1 42 (.bin .sub (.t 41) (ci 1)),
  (mt 9 42)]
abbrev IR:List AO:=
 [(mt 43 3),
  (mt 44 4),
  (mt 45 9),o1 46 (.ia 1 (.t 44) (.t 45)),o1 47 (.ld 1 false (.t 46)),
  (mt 48 5),
  (mt 49 9),
  (mt 50 7),
  (mt 51 7),⟨some 52,none,.mo (.me (.n .i64 0) (.t 43) (.t 47))⟩,o1 53 (.ext 1 (.t 52)),⟨none,none,.mo (.es (.t 43) (.t 53) (.t 50))⟩,o1 54 (.ia 1 (.t 48) (.t 49)),
  (o3 (.st 1 (.t 54) (.t 51)))]
abbrev IQ:List AO:=
 [o1 56 (.bin .eql (.t 23) (ci 30)),
  (mt 55 56)]
abbrev Cf:List AO:=
 [(mt 57 4),o1 58 (.len (.t 57)),o1 59 (.bin .sub (.t 58) (ci 1)),
  (mt 10 59)]
abbrev IP:List AO:=
 [(mt 60 0),
  (mt 61 4),
  (mt 62 10),o1 63 (.ia 1 (.t 61) (.t 62)),o1 64 (.ld 1 false (.t 63)),o1 65 (.ia 5 (.t 60) (.t 64)),o1 66 (.fa 0 (.t 65)),o1 67 (.ld 1 false (.t 66)),o1 68 (.bin .neq (.t 67) (ci 29))]
abbrev IM:List AO:=
 [(mt 69 10),o1 70 (.bin .sub (.t 69) (ci 1)),
  (mt 10 70)]
abbrev I1:AC:=
 (.reg IM)
abbrev I4:AC:=
 (.seq (.seq (.reg IP) (.cond (.t 68) .skip (.exit 3))) (.block 4 I1))
abbrev Cj:AC:=
 (.loop I4)
abbrev Ce:List AO:=
 [(mt 71 6),
  (mt 72 10),
  (mt 73 6),
  (mt 74 10),o1 75 (.ia 1 (.t 73) (.t 74)),o1 76 (.ld 1 false (.t 75)),
  (mt 77 7),o1 78 (.bs 3 1 1 [.n .i64 0] [(0,1,(.t 77))]),o1 79 (.app 3 1 8 (.t 76) (.t 78)),o1 80 (.ia 1 (.t 71) (.t 72)),
  (o3 (.st 1 (.t 80) (.t 79)))]
abbrev IL:List AO:=
 [o1 82 (.bin .eql (.t 23) (ci 31)),
  (mt 81 82)]
abbrev Cd:List AO:=
 [(mt 83 4),o1 84 (.len (.t 83)),o1 85 (.bin .sub (.t 84) (ci 1)),
  (mt 11 85)]
abbrev Ch:List (Nat×AO):=
 [(2,(mt 86 3)),
  (2,(mt 87 5)),
  (2,(mt 88 11)),(2,(o1 89 (.ia 1 (.t 87) (.t 88)))),
  (2,(mt 91 3)),
  (2,(mt 92 7)),
  (2,(mt 93 7)),
  (2,(mt 94 4)),
  (2,(mt 95 11)),(2,(o1 96 (.ia 1 (.t 94) (.t 95)))),(1,(o1 90 (.ld 1 false (.t 89)))),(1,(o1 97 (.ld 1 false (.t 96)))),(3,⟨some 98,none,.mo (.me (.n .i64 0) (.t 86) (.t 90))⟩),(2,(o1 99 (.ext 1 (.t 98)))),(3,⟨none,none,.mo (.es (.t 86) (.t 99) (.t 93))⟩),(3,⟨some 100,none,.mo (.me (.n .i64 0) (.t 91) (.t 92))⟩),(2,(o1 101 (.ext 1 (.t 100)))),(3,⟨none,none,.mo (.es (.t 91) (.t 101) (.t 97))⟩)]
abbrev Cc:List AO:=
 [(mt 102 6),
  (mt 103 11),o1 104 (.ia 1 (.t 102) (.t 103)),o1 105 (.ld 1 false (.t 104)),o1 106 (.len (.t 105)),o1 107 (.mv (ci 0))]
abbrev IK:List AO:=
 [o1 108 (.bin .lss (.t 107) (.t 106))]
abbrev IJ:List AO:=
 [o1 109 (.ia 1 (.t 105) (.t 107)),o1 110 (.ld 1 false (.t 109)),
  (mt 13 110)]
abbrev II:List AO:=
 [(mt 111 3),
  (mt 112 13),
  (mt 113 7),⟨none,none,.mo (.mu (.t 111) (.t 112) (.t 113))⟩]
abbrev I0:AC:=
 (.seq (.reg IJ) (.reg II))
abbrev IH:List AO:=
 [o1 114 (.bin .add (.t 107) (ci 1)),
  (mt 107 114)]
abbrev I3:AC:=
 (.seq (.reg IK) (.seq (.cond (.t 108) .skip (.exit 5)) (.seq (.block 6 I0) (.reg IH))))
abbrev Ci:AC:=
 (.loop I3)
abbrev Cg:List (Nat×AO):=
 [(2,(mt 115 4)),
  (2,(mt 116 11)),(2,(o1 117 (.sl 1 (.t 115) none (some (.t 116))))),
  (2,(mt 118 5)),
  (2,(mt 119 11)),(2,(o1 120 (.sl 1 (.t 118) none (some (.t 119))))),
  (2,(mt 121 6)),
  (2,(mt 122 11)),(2,(o1 123 (.sl 1 (.t 121) none (some (.t 122))))),
  (2,(mt 4 117)),
  (2,(mt 5 120)),
  (2,(mt 6 123))]
abbrev IZ:AC:=
 (.seq (.seq (.reg Pf) (.cond (.t 24) .skip (.reg Pe))) (.cond (.t 24) (.reg IW) (.seq (.reg IV) (.cond (.t 38) (.seq (.reg IU) (.reg IR)) (.seq (.reg IQ) (.cond (.t 55) (.seq (.reg Cf) (.seq (.block 3 Cj) (.reg Ce))) (.seq (.reg IL) (.cond (.t 81) (.seq (.reg Cd) (.seq (.mix Ch) (.seq (.seq (.reg Cc) (.block 5 Ci)) (.mix Cg)))) .skip))))))))
abbrev IY:AC:=
 (.seq (.reg Ph) (.seq (.reg Pg) (.block 2 IZ)))
abbrev IG:List AO:=
 [o1 124 (.bin .add (.t 17) (ci 1)),
  (mt 17 124)]
abbrev I2:AC:=
 (.seq (.reg Pj) (.seq (.cond (.t 18) .skip (.exit 0)) (.seq (.block 1 IY) (.reg IG))))
abbrev IX:AC:=
 (.loop I2)
abbrev IE:List AO:=
 [(mt 125 3),
  (mt 2 125)]
abbrev x8F:AF:=⟨126,(.seq (.reg Pp) (.seq (.reg Po) (.seq (.reg Pn) (.seq (.reg Pm) (.seq (.seq (.reg Pk) (.block 0 IX)) (.seq (.reg IE) .ret)))))),[.mv (.t 2)]⟩
theorem Pq:bJ Try.prog (aK Try.prog 86) 86=some x8F:=by kernel_rfl
/-! allocate.graph-/
abbrev Pc:List AO:=
 [o1 2 (.mv (.c .sl0))]
abbrev Pb:List AO:=
 [(mt 9 0),
  (o2 10 86 [.t 9]),
  (mt 3 10)]
abbrev Pa:List AO:=
 [o1 4 (.mv (.c .sl0))]
abbrev O9:List AO:=
 [(mt 11 0),o1 12 (.len (.t 11)),o1 13 (.mv (ci 0))]
abbrev O8:List AO:=
 [o1 14 (.bin .lss (.t 13) (.t 12))]
abbrev O7:List AO:=
 [(mt 15 13),o1 16 (.ia 5 (.t 11) (.t 13)),o1 17 (.ld 5 true (.t 16)),o1 6 (.al 60 [.n .i64 0,.n .i64 0,.n .i64 0,.n .i64 0,.n .u32 0]),
  (mt 5 15),
  (o3 (.st 5 (.t 6) (.t 17)))]
abbrev O6:List AO:=
 [(mt 18 5),o1 19 (.bin .add (.t 18) (ci 1)),o1 20 (.bs 3 1 1 [.n .i64 0] [(0,1,(.t 19))]),
  (mt 7 20)]
abbrev O5:List AO:=
 [o1 21 (.fa 0 (.t 6)),o1 22 (.ld 1 false (.t 21))]
abbrev O4:List AO:=
 [o1 24 (.bin .eql (.t 22) (ci 27)),
  (mt 23 24)]
abbrev O3:List AO:=
 [o1 25 (.bin .eql (.t 22) (ci 29)),
  (mt 23 25)]
abbrev Iy:List AO:=
 [o1 26 (.bin .eql (.t 22) (ci 30)),
  (mt 23 26)]
abbrev Ix:List AO:=
 [(mt 27 7),
  (mt 28 3),
  (mt 29 5),⟨some 30,none,.mo (.lk (.n .i64 0) false (.t 28) (.t 29))⟩,o1 31 (.bin .add (.t 30) (ci 1)),o1 32 (.bs 3 1 1 [.n .i64 0] [(0,1,(.t 31))]),o1 33 (.app 3 1 8 (.t 27) (.t 32)),
  (mt 7 33)]
abbrev Iw:List AO:=
 [o1 34 (.fa 0 (.t 6)),o1 35 (.ld 1 false (.t 34)),o1 36 (.bin .eql (.t 35) (ci 27)),
  (mt 37 36),
  (o5 38 37 (.mv (.t 0))),
  (o5 39 37 (.mv (.t 3))),
  (o5 40 37 (.mv (.t 5))),⟨some 41,some (37,true),.mo (.lk (.n .i64 0) false (.t 39) (.t 40))⟩,
  (o5 42 37 (.ia 5 (.t 38) (.t 41))),
  (o5 43 37 (.fa 0 (.t 42))),
  (o5 44 37 (.ld 1 false (.t 43))),
  (o5 45 37 (.bin .eql (.t 44) (ci 31))),o1 46 (.pick (.t 37) (.t 45) (.c (.b false)))]
abbrev Iv:List AO:=
 [(mt 47 7),
  (mt 48 3),
  (mt 49 5),⟨some 50,none,.mo (.lk (.n .i64 0) false (.t 48) (.t 49))⟩,o1 51 (.ia 1 (.t 47) (ci 1)),
  (o3 (.st 1 (.t 51) (.t 50)))]
abbrev Iu:List AO:=
 [o1 53 (.bin .eql (.t 22) (ci 28)),
  (mt 52 53)]
abbrev It:List AO:=
 [(mt 54 7),
  (mt 55 3),
  (mt 56 5),⟨some 57,none,.mo (.lk (.n .i64 0) false (.t 55) (.t 56))⟩,o1 58 (.bin .add (.t 57) (ci 1)),o1 59 (.ia 1 (.t 54) (ci 0)),
  (o3 (.st 1 (.t 59) (.t 58)))]
abbrev Ir:List AO:=
 [o1 61 (.bin .eql (.t 22) (ci 31)),
  (mt 60 61)]
abbrev Iq:List AO:=
 [(mt 62 3),
  (mt 63 5),⟨some 64,none,.mo (.lk (.n .i64 0) false (.t 62) (.t 63))⟩,
  (mt 8 64)]
abbrev Ip:List AO:=
 [(mt 65 0),
  (mt 66 8),o1 67 (.ia 5 (.t 65) (.t 66)),o1 68 (.fa 0 (.t 67)),o1 69 (.ld 1 false (.t 68)),o1 70 (.bin .eql (.t 69) (ci 29))]
abbrev Im:List AO:=
 [(mt 71 7),
  (mt 72 8),o1 73 (.bin .add (.t 72) (ci 1)),o1 74 (.bs 3 1 1 [.n .i64 0] [(0,1,(.t 73))]),o1 75 (.app 3 1 8 (.t 71) (.t 74)),
  (mt 7 75)]
abbrev IB:AC:=
 (.seq (.seq (.reg O4) (.cond (.t 23) .skip (.seq (.reg O3) (.cond (.t 23) .skip (.reg Iy))))) (.cond (.t 23) (.seq (.reg Ix) (.seq (.reg Iw) (.cond (.t 46) (.reg Iv) .skip))) (.seq (.reg Iu) (.cond (.t 52) (.reg It) (.seq (.reg Ir) (.cond (.t 60) (.seq (.reg Iq) (.seq (.reg Ip) (.cond (.t 70) (.reg Im) .skip))) .skip))))))
abbrev Il:List AO:=
 [(mt 76 4),
  (mt 77 7),o1 78 (.bs 39 1 1 [.sl0] [(0,1,(.t 77))]),o1 79 (.app 39 1 24 (.t 76) (.t 78)),
  (mt 4 79)]
abbrev IA:AC:=
 (.seq (.reg O7) (.seq (.reg O6) (.seq (.seq (.reg O5) (.block 2 IB)) (.reg Il))))
abbrev Ik:List AO:=
 [o1 80 (.bin .add (.t 13) (ci 1)),
  (mt 13 80)]
abbrev IC:AC:=
 (.seq (.reg O8) (.seq (.cond (.t 14) .skip (.exit 0)) (.seq (.block 1 IA) (.reg Ik))))
abbrev Iz:AC:=
 (.loop IC)
abbrev Ij:List AO:=
 [(mt 81 4),
  (mt 2 81)]
abbrev x9F:AF:=⟨82,(.seq (.reg Pc) (.seq (.reg Pb) (.seq (.reg Pa) (.seq (.seq (.reg O9) (.block 0 Iz)) (.seq (.reg Ij) .ret))))),[.mv (.t 2)]⟩
theorem Pd:bJ Try.prog (aK Try.prog 66) 66=some x9F:=by kernel_rfl
/-! allocate.occurring-/
abbrev NN:List AO:=
 [o1 2 (.mv (.c .sl0))]
abbrev NM:List AO:=
 [⟨some 10,none,.mo (.mm)⟩,
  (mt 3 10)]
abbrev NL:List AO:=
 [(mt 11 0),o1 12 (.len (.t 11)),o1 13 (.mv (ci 0))]
abbrev NK:List AO:=
 [o1 14 (.bin .lss (.t 13) (.t 12))]
abbrev NJ:List AO:=
 [o1 15 (.ia 5 (.t 11) (.t 13)),o1 16 (.ld 5 true (.t 15)),o1 5 (.al 60 [.n .i64 0,.n .i64 0,.n .i64 0,.n .i64 0,.n .u32 0]),
  (o3 (.st 5 (.t 5) (.t 16)))]
abbrev NI:List AO:=
 [o1 18 (.ld 5 true (.t 5)),
  (o2 19 68 [.t 18]),
  (mt 17 19),o1 20 (.ext 0 (.t 17)),o1 21 (.ext 1 (.t 17)),
  (mt 6 20),
  (mt 7 21)]
abbrev NH:List AO:=
 [(mt 22 6),
  (mt 23 7),o1 24 (.bs 3 1 1 [.n .i64 0] [(0,1,(.t 23))]),o1 25 (.app 3 1 8 (.t 22) (.t 24)),o1 26 (.len (.t 25)),o1 27 (.mv (ci 0))]
abbrev NG:List AO:=
 [o1 28 (.bin .lss (.t 27) (.t 26))]
abbrev NF:List AO:=
 [o1 29 (.ia 1 (.t 25) (.t 27)),o1 30 (.ld 1 false (.t 29)),
  (mt 9 30)]
abbrev ND:List AO:=
 [(mt 31 9),o1 32 (.bin .geq (.t 31) (ci 0))]
abbrev F5:List AO:=
 [(mt 33 3),
  (mt 34 9),⟨none,none,.mo (.mu (.t 33) (.t 34) (.c (.b true)))⟩]
abbrev F9:AC:=
 (.seq (.reg NF) (.seq (.reg ND) (.cond (.t 32) (.reg F5) .skip)))
abbrev F4:List AO:=
 [o1 35 (.bin .add (.t 27) (ci 1)),
  (mt 27 35)]
abbrev Gb:AC:=
 (.seq (.reg NG) (.seq (.cond (.t 28) .skip (.exit 2)) (.seq (.block 3 F9) (.reg F4))))
abbrev F8:AC:=
 (.loop Gb)
abbrev F7:AC:=
 (.seq (.reg NJ) (.seq (.reg NI) (.seq (.reg NH) (.block 2 F8))))
abbrev F3:List AO:=
 [o1 36 (.bin .add (.t 13) (ci 1)),
  (mt 13 36)]
abbrev Ga:AC:=
 (.seq (.reg NK) (.seq (.cond (.t 14) .skip (.exit 0)) (.seq (.block 1 F7) (.reg F3))))
abbrev F6:AC:=
 (.loop Ga)
abbrev F2:List AO:=
 [(mt 37 3),
  (o2 38 38 [.t 37]),
  (o2 39 37 [.t 38]),
  (mt 2 39)]
abbrev QX:AF:=⟨40,(.seq (.reg NN) (.seq (.reg NM) (.seq (.seq (.reg NL) (.block 0 F6)) (.seq (.reg F2) .ret)))),[.mv (.t 2)]⟩
theorem NP:bJ Try.prog (aK Try.prog 52) 52=some QX:=by kernel_rfl
/-! allocate.replaced-/
abbrev Nx:List AO:=
 [o1 2 (.bx 60 0 (.t 0)),o1 4 (.al 60 [.n .i64 0,.n .i64 0,.n .i64 0,.n .i64 0,.n .u32 0])]
abbrev Nw:List AO:=
 [o1 9 (.fa 1 (.t 2)),o1 10 (.fa 2 (.t 2)),o1 11 (.fa 3 (.t 2)),o1 12 (.bs 120 1 3 [.p0,.p0,.p0] [(0,1,(.t 9)),(1,1,(.t 10)),(2,1,(.t 11))]),o1 13 (.len (.t 12)),o1 14 (.mv (ci 0))]
abbrev Nv:List AO:=
 [o1 15 (.bin .lss (.t 14) (.t 13))]
abbrev Nu:List AO:=
 [o1 16 (.ia 1 (.t 12) (.t 14)),o1 17 (.ld 1 false (.t 16)),
  (mt 6 17)]
abbrev Nt:List AO:=
 [(mt 19 1),
  (mt 20 6),o1 21 (.nc (.t 20)),o1 22 (.ld 1 false (.t 21)),⟨some 23,none,.mo (.lk (.n .i64 0) true (.t 19) (.t 22))⟩,
  (mt 18 23),o1 24 (.ext 0 (.t 18)),o1 25 (.ext 1 (.t 18)),
  (mt 7 24),
  (mt 8 25)]
abbrev Ns:List AO:=
 [(mt 26 8)]
abbrev Nr:List AO:=
 [(mt 27 6),
  (mt 28 7),o1 29 (.nc (.t 27)),
  (o3 (.st 1 (.t 29) (.t 28)))]
abbrev Nz:AC:=
 (.seq (.reg Nu) (.seq (.reg Nt) (.seq (.reg Ns) (.cond (.t 26) (.reg Nr) .skip))))
abbrev Nq:List AO:=
 [o1 30 (.bin .add (.t 14) (ci 1)),
  (mt 14 30)]
abbrev NC:AC:=
 (.seq (.reg Nv) (.seq (.cond (.t 15) .skip (.exit 0)) (.seq (.block 1 Nz) (.reg Nq))))
abbrev F1:AC:=
 (.loop NC)
abbrev F0:List AO:=
 [o1 31 (.ld 5 true (.t 2)),
  (o3 (.st 5 (.t 4) (.t 31)))]
abbrev QW:AF:=⟨32,(.seq (.reg Nx) (.seq (.seq (.reg Nw) (.block 0 F1)) (.seq (.reg F0) .ret))),[.ld 5 true (.t 4)]⟩
theorem Ny:bJ Try.prog (aK Try.prog 46) 46=some QW:=by kernel_rfl
/-! allocate.copied-/
abbrev Nm:List AO:=
 [o1 1 (.bx 25 0 (.t 0)),o1 2 (.al 25 [.sl0,.n .i64 0,.n .i64 0,.sl0])]
abbrev Np:List (Nat×AO):=
 [(2,(o1 3 (.fa 0 (.t 1)))),(2,(o1 6 (.fa 3 (.t 1)))),(1,(o1 4 (.ld 1 false (.t 3)))),(1,(o1 7 (.ld 1 false (.t 6)))),
  (0,(o2 5 75 [.t 4])),(2,(o1 9 (.fa 0 (.t 1)))),
  (3,(o2 8 29 [.t 7])),
  (3,(o3 (.st 1 (.t 9) (.t 5)))),(2,(o1 10 (.fa 3 (.t 1)))),
  (3,(o3 (.st 1 (.t 10) (.t 8))))]
abbrev Nl:List AO:=
 [o1 11 (.ld 4 true (.t 1)),
  (o3 (.st 4 (.t 2) (.t 11)))]
abbrev QV:AF:=⟨12,(.seq (.reg Nm) (.seq (.mix Np) (.seq (.reg Nl) .ret))),[.ld 4 true (.t 2)]⟩
theorem Nn:bJ Try.prog (aK Try.prog 44) 44=some QV:=by kernel_rfl
/-! allocate.renamed-/
abbrev Ng:List AO:=
 [o1 3 (.bx 25 0 (.t 0)),o1 6 (.al 25 [.sl0,.n .i64 0,.n .i64 0,.sl0])]
abbrev Nf:List AO:=
 [o1 10 (.ld 4 true (.t 3)),
  (o2 11 44 [.t 10]),o1 7 (.al 25 [.sl0,.n .i64 0,.n .i64 0,.sl0]),
  (o3 (.st 4 (.t 7) (.t 11)))]
abbrev Nd:List AO:=
 [(mt 12 2),o1 13 (.fa 1 (.t 7)),
  (o3 (.st 1 (.t 13) (.t 12)))]
abbrev Nc:List AO:=
 [o1 14 (.fa 3 (.t 7)),o1 15 (.ld 1 false (.t 14)),o1 16 (.len (.t 15)),o1 17 (.mv (ci 0))]
abbrev Nb:List AO:=
 [o1 18 (.bin .lss (.t 17) (.t 16))]
abbrev Na:List AO:=
 [(mt 19 17),o1 20 (.ia 5 (.t 15) (.t 17)),o1 21 (.ld 5 true (.t 20)),o1 9 (.al 60 [.n .i64 0,.n .i64 0,.n .i64 0,.n .i64 0,.n .u32 0]),
  (mt 8 19),
  (o3 (.st 5 (.t 9) (.t 21)))]
abbrev Ni:List (Nat×AO):=
 [(2,(o1 22 (.fa 3 (.t 7)))),
  (2,(mt 24 8)),
  (2,(mt 26 1)),(1,(o1 23 (.ld 1 false (.t 22)))),(1,(o1 25 (.ld 5 true (.t 9)))),
  (0,(o2 27 46 [.t 25,.t 26])),(2,(o1 28 (.ia 5 (.t 23) (.t 24)))),
  (3,(o3 (.st 5 (.t 28) (.t 27))))]
abbrev Nj:AC:=
 (.seq (.reg Na) (.mix Ni))
abbrev M9:List AO:=
 [o1 29 (.bin .add (.t 17) (ci 1)),
  (mt 17 29)]
abbrev Nk:AC:=
 (.seq (.reg Nb) (.seq (.cond (.t 18) .skip (.exit 0)) (.seq (.block 1 Nj) (.reg M9))))
abbrev FZ:AC:=
 (.loop Nk)
abbrev FY:List AO:=
 [o1 30 (.ld 4 true (.t 7)),
  (o3 (.st 4 (.t 6) (.t 30)))]
abbrev QU:AF:=⟨31,(.seq (.reg Ng) (.seq (.reg Nf) (.seq (.reg Nd) (.seq (.seq (.reg Nc) (.block 0 FZ)) (.seq (.reg FY) .ret))))),[.ld 4 true (.t 6)]⟩
theorem Nh:bJ Try.prog (aK Try.prog 43) 43=some QU:=by kernel_rfl
/-! allocate.Compact-/
abbrev M6:List AO:=
 [o1 1 (.bx 25 0 (.t 0)),o1 2 (.al 25 [.sl0,.n .i64 0,.n .i64 0,.sl0]),o1 3 (.mv (ci 0))]
abbrev M5:List AO:=
 [o1 10 (.ld 4 true (.t 1)),
  (o2 11 27 [.t 10]),
  (mt 9 11),o1 12 (.ext 0 (.t 9)),o1 13 (.ext 1 (.t 9)),
  (mt 4 12),
  (mt 5 13)]
abbrev M4:List AO:=
 [(mt 14 5),o1 15 (.bin .neq (.t 14) (ci 0))]
abbrev M3:List AO:=
 [o1 16 (.bd [.sl0,.n .i64 0,.n .i64 0,.sl0] []),
  (mt 17 5),
  (o3 (.st 4 (.t 2) (.t 16))),
  (mt 3 17)]
abbrev M2:List AO:=
 [⟨some 18,none,.mo (.mm)⟩,
  (mt 6 18)]
abbrev M1:List AO:=
 [o1 19 (.fa 3 (.t 1)),o1 20 (.ld 1 false (.t 19)),
  (o2 21 52 [.t 20]),o1 22 (.len (.t 21)),o1 23 (.mv (ci 0))]
abbrev M0:List AO:=
 [o1 24 (.bin .lss (.t 23) (.t 22))]
abbrev MZ:List AO:=
 [(mt 25 23),o1 26 (.ia 1 (.t 21) (.t 23)),o1 27 (.ld 1 false (.t 26)),
  (mt 7 25),
  (mt 8 27)]
abbrev MY:List AO:=
 [(mt 28 6),
  (mt 29 8),
  (mt 30 7),⟨none,none,.mo (.mu (.t 28) (.t 29) (.t 30))⟩]
abbrev M8:AC:=
 (.seq (.reg MZ) (.reg MY))
abbrev FV:List AO:=
 [o1 31 (.bin .add (.t 23) (ci 1)),
  (mt 23 31)]
abbrev FX:AC:=
 (.seq (.reg M0) (.seq (.cond (.t 24) .skip (.exit 0)) (.seq (.block 1 M8) (.reg FV))))
abbrev FW:AC:=
 (.loop FX)
abbrev FU:List AO:=
 [o1 32 (.ld 4 true (.t 1)),
  (mt 33 6),
  (mt 34 6),⟨some 35,none,.mo (.ln (.t 34))⟩,
  (o2 36 43 [.t 32,.t 33,.t 35]),
  (o3 (.st 4 (.t 2) (.t 36))),o1 3 (.mv (ci 0))]
abbrev QT:AF:=⟨37,(.seq (.reg M6) (.seq (.seq (.reg M5) (.seq (.reg M4) (.cond (.t 15) (.seq (.reg M3) .ret) .skip))) (.seq (.reg M2) (.seq (.seq (.reg M1) (.block 0 FW)) (.seq (.reg FU) .ret))))),[.ld 4 true (.t 2),.mv (.t 3)]⟩
theorem M7:bJ Try.prog (aK Try.prog 20) 20=some QT:=by kernel_rfl
/-! allocate.interference-/
abbrev MW:List AO:=
 [o1 2 (.mv (.c (.cv (.map none))))]
abbrev MV:List AO:=
 [⟨some 16,none,.mo (.mm)⟩,o1 3 (.al 117 [.cv (.map none)]),
  (o3 (.st 1 (.t 3) (.t 16)))]
abbrev MU:List AO:=
 [o1 17 (.mf 94 [] [.t 3]),
  (mt 4 17)]
abbrev MT:List AO:=
 [(mt 19 0),
  (o2 20 36 [.t 19]),
  (mt 18 20),o1 21 (.ext 0 (.t 18)),o1 22 (.ext 1 (.t 18)),
  (mt 5 21),
  (mt 6 22)]
abbrev MS:List AO:=
 [(mt 23 5),o1 24 (.ia 1 (.t 23) (ci 0)),o1 25 (.ld 1 false (.t 24)),⟨some 26,none,.mo (.rg (.t 25))⟩]
abbrev MR:List AO:=
 [⟨some 27,none,.mo (.nx (.t 26))⟩,o1 28 (.ext 0 (.t 27))]
abbrev MQ:List AO:=
 [⟨some 29,none,.mo (.en (.t 26))⟩,o1 30 (.ext 0 (.t 29)),
  (mt 7 30)]
abbrev MP:List AO:=
 [(mt 31 5),o1 32 (.ia 1 (.t 31) (ci 0)),o1 33 (.ld 1 false (.t 32)),⟨some 34,none,.mo (.rg (.t 33))⟩]
abbrev MN:List AO:=
 [⟨some 35,none,.mo (.nx (.t 34))⟩,o1 36 (.ext 0 (.t 35))]
abbrev MM:List AO:=
 [⟨some 37,none,.mo (.en (.t 34))⟩,o1 38 (.ext 0 (.t 37)),
  (mt 8 38)]
abbrev FG:List AO:=
 [(mt 39 7),
  (mt 40 8),o1 41 (.bin .neq (.t 39) (.t 40))]
abbrev FF:List AO:=
 [(mt 42 4),
  (mt 43 7),
  (mt 44 8),⟨some 45,none,.cl (.t 42) [.t 43,.t 44]⟩]
abbrev FO:AC:=
 (.seq (.reg MM) (.seq (.reg FG) (.cond (.t 41) (.reg FF) .skip)))
abbrev FT:AC:=
 (.seq (.reg MN) (.seq (.cond (.t 36) .skip (.exit 2)) (.block 3 FO)))
abbrev FN:AC:=
 (.loop FT)
abbrev FM:AC:=
 (.seq (.reg MQ) (.seq (.reg MP) (.block 2 FN)))
abbrev FS:AC:=
 (.seq (.reg MR) (.seq (.cond (.t 28) .skip (.exit 0)) (.block 1 FM)))
abbrev wI:AC:=
 (.loop FS)
abbrev FE:List AO:=
 [(mt 46 0),o1 47 (.len (.t 46)),o1 48 (.mv (ci 0))]
abbrev FD:List AO:=
 [o1 49 (.bin .lss (.t 48) (.t 47))]
abbrev FC:List AO:=
 [(mt 50 48),o1 51 (.ia 5 (.t 46) (.t 48)),o1 52 (.ld 5 true (.t 51)),o1 10 (.al 60 [.n .i64 0,.n .i64 0,.n .i64 0,.n .i64 0,.n .u32 0]),
  (mt 9 50),
  (o3 (.st 5 (.t 10) (.t 52)))]
abbrev FB:List AO:=
 [o1 54 (.ld 5 true (.t 10)),
  (o2 55 68 [.t 54]),
  (mt 53 55),o1 56 (.ext 0 (.t 53)),o1 57 (.ext 1 (.t 53)),
  (mt 11 56),
  (mt 12 57)]
abbrev FA:List AO:=
 [(mt 58 6),
  (mt 59 9),o1 60 (.ia 1 (.t 58) (.t 59)),o1 61 (.ld 1 false (.t 60)),o1 62 (.len (.t 61)),o1 63 (.mv (ci 0))]
abbrev Fy:List AO:=
 [o1 64 (.bin .lss (.t 63) (.t 62))]
abbrev Fx:List AO:=
 [o1 65 (.ia 1 (.t 61) (.t 63)),o1 66 (.ld 1 false (.t 65)),
  (mt 14 66)]
abbrev Fw:List AO:=
 [(mt 67 5),
  (mt 68 14),o1 69 (.ia 1 (.t 67) (.t 68)),o1 70 (.ld 1 false (.t 69)),⟨some 71,none,.mo (.rg (.t 70))⟩]
abbrev Fv:List AO:=
 [⟨some 72,none,.mo (.nx (.t 71))⟩,o1 73 (.ext 0 (.t 72))]
abbrev Fu:List AO:=
 [⟨some 74,none,.mo (.en (.t 71))⟩,o1 75 (.ext 0 (.t 74)),
  (mt 15 75)]
abbrev Ft:List AO:=
 [(mt 76 12),o1 77 (.bin .geq (.t 76) (ci 0)),
  (mt 78 77),
  (o5 79 78 (.mv (.t 15))),
  (o5 80 78 (.mv (.t 12))),
  (o5 81 78 (.bin .neq (.t 79) (.t 80))),o1 82 (.pick (.t 78) (.t 81) (.c (.b false)))]
abbrev Fs:List AO:=
 [(mt 83 4),
  (mt 84 12),
  (mt 85 15),⟨some 86,none,.cl (.t 83) [.t 84,.t 85]⟩]
abbrev FL:AC:=
 (.seq (.reg Fu) (.seq (.reg Ft) (.cond (.t 82) (.reg Fs) .skip)))
abbrev FR:AC:=
 (.seq (.reg Fv) (.seq (.cond (.t 73) .skip (.exit 8)) (.block 9 FL)))
abbrev FK:AC:=
 (.loop FR)
abbrev FJ:AC:=
 (.seq (.reg Fx) (.seq (.reg Fw) (.block 8 FK)))
abbrev Fq:List AO:=
 [o1 87 (.bin .add (.t 63) (ci 1)),
  (mt 63 87)]
abbrev FQ:AC:=
 (.seq (.reg Fy) (.seq (.cond (.t 64) .skip (.exit 6)) (.seq (.block 7 FJ) (.reg Fq))))
abbrev FI:AC:=
 (.loop FQ)
abbrev FH:AC:=
 (.seq (.reg FC) (.seq (.reg FB) (.seq (.reg FA) (.block 6 FI))))
abbrev Fp:List AO:=
 [o1 88 (.bin .add (.t 48) (ci 1)),
  (mt 48 88)]
abbrev FP:AC:=
 (.seq (.reg FD) (.seq (.cond (.t 49) .skip (.exit 4)) (.seq (.block 5 FH) (.reg Fp))))
abbrev wH:AC:=
 (.loop FP)
abbrev Fo:List AO:=
 [o1 89 (.ld 1 false (.t 3)),
  (mt 2 89)]
abbrev QS:AF:=⟨90,(.seq (.reg MW) (.seq (.reg MV) (.seq (.reg MU) (.seq (.reg MT) (.seq (.seq (.reg MS) (.block 0 wI)) (.seq (.seq (.reg FE) (.block 4 wH)) (.seq (.reg Fo) .ret))))))),[.mv (.t 2)]⟩
theorem MX:bJ Try.prog (aK Try.prog 74) 74=some QS:=by kernel_rfl
/-! allocate.interference$1-/
abbrev MG:List AO:=
 [(mt 7 0),
  (mt 8 1),o1 9 (.bd [.n .i64 0,.n .i64 0] [(0,1,(.t 7)),(1,1,(.t 8))]),
  (mt 10 1),
  (mt 11 0),o1 12 (.bd [.n .i64 0,.n .i64 0] [(0,1,(.t 10)),(1,1,(.t 11))]),o1 13 (.bs 142 2 2 [.n .i64 0,.n .i64 0,.n .i64 0,.n .i64 0] [(0,2,(.t 9)),(2,2,(.t 12))]),o1 14 (.len (.t 13)),o1 15 (.mv (ci 0))]
abbrev MF:List AO:=
 [o1 16 (.bin .lss (.t 15) (.t 14))]
abbrev ME:List AO:=
 [o1 17 (.ia 2 (.t 13) (.t 15)),o1 18 (.ld 2 true (.t 17)),o1 6 (.al 142 [.n .i64 0,.n .i64 0]),
  (o3 (.st 2 (.t 6) (.t 18)))]
abbrev MD:List AO:=
 [o1 19 (.ld 1 false (.t 2)),o1 20 (.iaa 2 1 (.t 6) (ci 0)),o1 21 (.ld 1 false (.t 20)),⟨some 22,none,.mo (.lk (.cv (.map none)) false (.t 19) (.t 21))⟩,⟨some 23,none,.mo (.mn false (.t 22))⟩]
abbrev MC:List AO:=
 [o1 24 (.ld 1 false (.t 2)),o1 25 (.iaa 2 1 (.t 6) (ci 0)),o1 26 (.ld 1 false (.t 25)),⟨some 27,none,.mo (.mm)⟩,⟨none,none,.mo (.mu (.t 24) (.t 26) (.t 27))⟩]
abbrev MB:List AO:=
 [o1 28 (.ld 1 false (.t 2)),o1 29 (.iaa 2 1 (.t 6) (ci 0)),o1 30 (.ld 1 false (.t 29)),⟨some 31,none,.mo (.lk (.cv (.map none)) false (.t 28) (.t 30))⟩,o1 32 (.iaa 2 1 (.t 6) (ci 1)),o1 33 (.ld 1 false (.t 32)),⟨none,none,.mo (.mu (.t 31) (.t 33) (.c (.b true)))⟩]
abbrev MJ:AC:=
 (.seq (.reg ME) (.seq (.seq (.reg MD) (.cond (.t 23) (.reg MC) .skip)) (.reg MB)))
abbrev MA:List AO:=
 [o1 34 (.bin .add (.t 15) (ci 1)),
  (mt 15 34)]
abbrev ML:AC:=
 (.seq (.reg MF) (.seq (.cond (.t 16) .skip (.exit 0)) (.seq (.block 1 MJ) (.reg MA))))
abbrev MI:AC:=
 (.loop ML)
abbrev QR:AF:=⟨35,(.seq (.reg MG) (.block 0 MI)),[]⟩
theorem MH:bJ Try.prog (aK Try.prog 94) 94=some QR:=by kernel_rfl
/-! allocate.spiller.cell-/
abbrev Mx:List AO:=
 [o1 2 (.bx 83 0 (.t 0)),o1 4 (.mv (.c (.n .u32 0))),o1 5 (.mv (.c (.b false)))]
abbrev Mz:List (Nat×AO):=
 [(2,(o1 6 (.fa 1 (.t 2)))),
  (2,(mt 8 1)),(2,(o1 10 (.fa 0 (.t 2)))),
  (2,(mt 14 1)),(2,(o1 15 (.fa 0 (.t 2)))),(1,(o1 7 (.ld 1 false (.t 6)))),(2,(o1 9 (.bin .add (.t 7) (.t 8)))),(1,(o1 11 (.ld 1 false (.t 10)))),(2,(o1 12 (.bin .sub (.t 9) (.t 11)))),(2,(o1 13 (.cvi .u32 (.t 12)))),
  (2,(mt 4 13)),(1,(o1 16 (.ld 1 false (.t 15)))),(2,(o1 17 (.bin .geq (.t 14) (.t 16)))),
  (2,(mt 5 17))]
abbrev QQ:AF:=⟨18,(.seq (.reg Mx) (.seq (.mix Mz) .ret)),[.mv (.t 4),.mv (.t 5)]⟩
theorem My:bJ Try.prog (aK Try.prog 76) 76=some QQ:=by kernel_rfl
/-! allocate.sequence-/
abbrev Mv:List AO:=
 [o1 2 (.mv (.c .sl0))]
abbrev Mu:List AO:=
 [(mt 3 0),
  (mt 2 3)]
abbrev QP:AF:=⟨4,(.seq (.reg Mv) (.seq (.reg Mu) .ret)),[.mv (.t 2)]⟩
theorem Mw:bJ Try.prog (aK Try.prog 77) 77=some QP:=by kernel_rfl
/-! allocate.spiller.rewrite-/
abbrev Mq:List AO:=
 [o1 2 (.bx 83 0 (.t 0)),o1 3 (.bx 60 0 (.t 1)),o1 4 (.mv (.c .sl0))]
abbrev Mp:List AO:=
 [o1 5 (.mv (.c .sl0)),o1 6 (.mv (.c .sl0))]
abbrev Mo:List AO:=
 [o1 13 (.fa 2 (.t 3)),o1 14 (.fa 3 (.t 3)),o1 15 (.bs 120 1 2 [.p0,.p0] [(0,1,(.t 13)),(1,1,(.t 14))]),o1 16 (.len (.t 15)),o1 17 (.mv (ci 0))]
abbrev Mn:List AO:=
 [o1 18 (.bin .lss (.t 17) (.t 16))]
abbrev Mm:List AO:=
 [(mt 19 17),o1 20 (.ia 1 (.t 15) (.t 17)),o1 21 (.ld 1 false (.t 20)),
  (mt 7 19),
  (mt 8 21)]
abbrev Ms:List (Nat×AO):=
 [(2,(mt 24 8)),(2,(o1 25 (.nc (.t 24)))),(1,(o1 23 (.ld 2 true (.t 2)))),(1,(o1 26 (.ld 1 false (.t 25)))),
  (3,(o2 27 76 [.t 23,.t 26])),
  (2,(mt 22 27)),(2,(o1 28 (.ext 0 (.t 22)))),(2,(o1 29 (.ext 1 (.t 22)))),
  (2,(mt 9 28)),
  (2,(mt 10 29))]
abbrev Ml:List AO:=
 [(mt 30 10)]
abbrev Mj:List AO:=
 [(mt 31 8),o1 32 (.fa 0 (.t 2)),o1 33 (.ld 1 false (.t 32)),
  (mt 34 7),o1 35 (.bin .add (.t 33) (.t 34)),o1 36 (.nc (.t 31)),
  (o3 (.st 1 (.t 36) (.t 35)))]
abbrev Mi:List AO:=
 [(mt 37 5),
  (mt 38 8),o1 39 (.nc (.t 38)),o1 40 (.ld 1 false (.t 39)),
  (mt 41 9),o1 42 (.bd [.n .i64 0,.n .i64 0,.n .i64 0,.n .i64 0,.n .u32 0] [(0,1,(ci 38)),(1,1,(.t 40)),(2,1,(.c (.n .i64 (-1)))),(3,1,(.c (.n .i64 (-1)))),(4,1,(.t 41))]),o1 43 (.bs 60 5 1 [.n .i64 0,.n .i64 0,.n .i64 0,.n .i64 0,.n .u32 0] [(0,5,(.t 42))]),o1 44 (.app 60 5 40 (.t 37) (.t 43)),
  (mt 5 44)]
abbrev Mt:AC:=
 (.seq (.reg Mm) (.seq (.mix Ms) (.seq (.reg Ml) (.cond (.t 30) (.seq (.reg Mj) (.reg Mi)) .skip))))
abbrev Fk:List AO:=
 [o1 45 (.bin .add (.t 17) (ci 1)),
  (mt 17 45)]
abbrev Fm:AC:=
 (.seq (.reg Mn) (.seq (.cond (.t 18) .skip (.exit 0)) (.seq (.block 1 Mt) (.reg Fk))))
abbrev Fl:AC:=
 (.loop Fm)
abbrev Fj:List AO:=
 [o1 47 (.ld 2 true (.t 2)),o1 48 (.fa 1 (.t 3)),o1 49 (.ld 1 false (.t 48)),
  (o2 50 76 [.t 47,.t 49]),
  (mt 46 50),o1 51 (.ext 0 (.t 46)),o1 52 (.ext 1 (.t 46)),
  (mt 11 51),
  (mt 12 52)]
abbrev Fi:List AO:=
 [(mt 53 12)]
abbrev Fh:List AO:=
 [o1 54 (.fa 0 (.t 2)),o1 55 (.ld 1 false (.t 54)),o1 56 (.bin .add (.t 55) (ci 2)),o1 57 (.fa 1 (.t 3)),
  (o3 (.st 1 (.t 57) (.t 56)))]
abbrev Fg:List AO:=
 [o1 58 (.fa 1 (.t 3)),o1 59 (.ld 1 false (.t 58)),
  (mt 60 11),o1 61 (.bd [.n .i64 0,.n .i64 0,.n .i64 0,.n .i64 0,.n .u32 0] [(0,1,(ci 37)),(1,1,(.c (.n .i64 (-1)))),(2,1,(.t 59)),(3,1,(.c (.n .i64 (-1)))),(4,1,(.t 60))]),o1 62 (.bs 60 5 1 [.n .i64 0,.n .i64 0,.n .i64 0,.n .i64 0,.n .u32 0] [(0,5,(.t 61))]),
  (o2 63 77 [.t 62]),
  (mt 6 63)]
abbrev wG:List AO:=
 [(mt 64 5),o1 65 (.ld 5 true (.t 3)),o1 66 (.bs 60 5 1 [.n .i64 0,.n .i64 0,.n .i64 0,.n .i64 0,.n .u32 0] [(0,5,(.t 65))]),
  (o2 67 77 [.t 66]),
  (mt 68 6),o1 69 (.bs 23 1 3 [.sl0,.sl0,.sl0] [(0,1,(.t 64)),(1,1,(.t 67)),(2,1,(.t 68))]),
  (o2 70 78 [.t 69]),
  (mt 4 70)]
abbrev QO:AF:=⟨71,(.seq (.reg Mq) (.seq (.reg Mp) (.seq (.seq (.reg Mo) (.block 0 Fl)) (.seq (.seq (.reg Fj) (.seq (.reg Fi) (.cond (.t 53) (.seq (.reg Fh) (.reg Fg)) .skip))) (.seq (.reg wG) .ret))))),[.mv (.t 4)]⟩
theorem Mr:bJ Try.prog (aK Try.prog 45) 45=some QO:=by kernel_rfl
/-! allocate.Allocate-/
abbrev Mh:List AO:=
 [o1 2 (.bx 25 0 (.t 0)),o1 4 (.al 25 [.sl0,.n .i64 0,.n .i64 0,.sl0]),o1 5 (.mv (ci 0))]
abbrev Mg:List AO:=
 [o1 15 (.ld 4 true (.t 2)),
  (o2 16 27 [.t 15]),
  (mt 14 16),o1 17 (.ext 0 (.t 14)),o1 18 (.ext 1 (.t 14)),
  (mt 6 17),
  (mt 7 18)]
abbrev Mf:List AO:=
 [(mt 19 7),o1 20 (.bin .neq (.t 19) (ci 0))]
abbrev Me:List AO:=
 [o1 21 (.bd [.sl0,.n .i64 0,.n .i64 0,.sl0] []),
  (mt 22 7),
  (o3 (.st 4 (.t 4) (.t 21))),
  (mt 5 22)]
abbrev Md:List AO:=
 [(mt 23 1),o1 24 (.bin .lss (.t 23) (ci 4)),
  (mt 25 24),
  (o4 26 25 (.mv (.t 1))),
  (o4 27 25 (.bin .gtr (.t 26) (ci 1024))),o1 28 (.pick (.t 25) (.c (.b true)) (.t 27))]
abbrev Mc:List AO:=
 [o1 29 (.bd [.sl0,.n .i64 0,.n .i64 0,.sl0] []),
  (o3 (.st 4 (.t 4) (.t 29))),o1 5 (.mv (ci 2))]
abbrev Mb:List AO:=
 [o1 31 (.fa 3 (.t 2)),o1 32 (.ld 1 false (.t 31)),
  (o2 33 42 [.t 32]),
  (mt 30 33),o1 34 (.ext 0 (.t 30)),o1 35 (.ext 1 (.t 30)),
  (mt 8 34),
  (mt 9 35)]
abbrev Ma:List AO:=
 [(mt 36 9),
  (mt 37 1),o1 38 (.bin .leq (.t 36) (.t 37))]
abbrev L9:List AO:=
 [o1 39 (.ld 4 true (.t 2)),
  (mt 40 8),
  (mt 41 9),
  (o2 42 43 [.t 39,.t 40,.t 41]),
  (o3 (.st 4 (.t 4) (.t 42))),o1 5 (.mv (ci 0))]
abbrev L8:List AO:=
 [(mt 43 1),o1 44 (.bin .sub (.t 43) (ci 3)),o1 45 (.fa 2 (.t 2)),o1 46 (.ld 1 false (.t 45)),o1 47 (.bd [.n .i64 0,.n .i64 0] [(0,1,(.t 44)),(1,1,(.t 46))]),o1 10 (.al 83 [.n .i64 0,.n .i64 0]),
  (o3 (.st 2 (.t 10) (.t 47)))]
abbrev Fa:List AO:=
 [o1 48 (.ld 4 true (.t 2)),
  (o2 49 44 [.t 48]),o1 11 (.al 25 [.sl0,.n .i64 0,.n .i64 0,.sl0]),
  (o3 (.st 4 (.t 11) (.t 49)))]
abbrev Fc:List (Nat×AO):=
 [(2,(mt 50 1)),(2,(o1 51 (.fa 2 (.t 2)))),
  (2,(mt 53 9)),(2,(o1 55 (.fa 0 (.t 10)))),(2,(o1 58 (.fa 1 (.t 11)))),(1,(o1 52 (.ld 1 false (.t 51)))),(2,(o1 54 (.bin .add (.t 52) (.t 53)))),(1,(o1 56 (.ld 1 false (.t 55)))),(2,(o1 57 (.bin .sub (.t 54) (.t 56)))),
  (0,(o3 (.st 1 (.t 58) (.t 50)))),(2,(o1 59 (.fa 2 (.t 11)))),
  (3,(o3 (.st 1 (.t 59) (.t 57)))),(2,(o1 60 (.fa 3 (.t 11)))),
  (3,(o3 (.st 1 (.t 60) (.c .sl0))))]
abbrev E9:List AO:=
 [o1 61 (.fa 3 (.t 2)),o1 62 (.ld 1 false (.t 61)),o1 63 (.len (.t 62)),o1 64 (.mv (ci 0))]
abbrev E8:List AO:=
 [o1 65 (.bin .lss (.t 64) (.t 63))]
abbrev E7:List AO:=
 [o1 66 (.ia 5 (.t 62) (.t 64)),o1 67 (.ld 5 true (.t 66)),o1 13 (.al 60 [.n .i64 0,.n .i64 0,.n .i64 0,.n .i64 0,.n .u32 0]),
  (o3 (.st 5 (.t 13) (.t 67)))]
abbrev Fb:List (Nat×AO):=
 [(2,(o1 68 (.fa 3 (.t 11)))),
  (2,(mt 72 8)),(1,(o1 69 (.ld 1 false (.t 68)))),(1,(o1 70 (.ld 2 true (.t 10)))),(1,(o1 71 (.ld 5 true (.t 13)))),
  (0,(o2 73 46 [.t 71,.t 72])),
  (0,(o2 74 45 [.t 70,.t 73])),(3,(o1 75 (.app 60 5 40 (.t 69) (.t 74)))),(2,(o1 76 (.fa 3 (.t 11)))),
  (3,(o3 (.st 1 (.t 76) (.t 75))))]
abbrev Fe:AC:=
 (.seq (.reg E7) (.mix Fb))
abbrev E6:List AO:=
 [o1 77 (.bin .add (.t 64) (ci 1)),
  (mt 64 77)]
abbrev Ff:AC:=
 (.seq (.reg E8) (.seq (.cond (.t 65) .skip (.exit 0)) (.seq (.block 1 Fe) (.reg E6))))
abbrev Fd:AC:=
 (.loop Ff)
abbrev E5:List AO:=
 [o1 78 (.fa 2 (.t 11)),o1 79 (.ld 1 false (.t 78)),o1 80 (.bin .gtr (.t 79) (ci 1024)),
  (mt 81 80),
  (o4 82 81 (.fa 3 (.t 11))),
  (o4 83 81 (.ld 1 false (.t 82))),
  (o4 84 81 (.len (.t 83))),
  (o4 85 81 (.bin .gtr (.t 84) (ci 16384))),o1 86 (.pick (.t 81) (.c (.b true)) (.t 85))]
abbrev E4:List AO:=
 [o1 87 (.bd [.sl0,.n .i64 0,.n .i64 0,.sl0] []),
  (o3 (.st 4 (.t 4) (.t 87))),o1 5 (.mv (ci 6))]
abbrev E3:List AO:=
 [o1 88 (.ld 4 true (.t 11)),
  (o3 (.st 4 (.t 4) (.t 88))),o1 5 (.mv (ci 0))]
abbrev QC:AF:=⟨89,(.seq (.reg Mh) (.seq (.seq (.reg Mg) (.seq (.reg Mf) (.cond (.t 20) (.seq (.reg Me) .ret) .skip))) (.seq (.seq (.reg Md) (.cond (.t 28) (.seq (.reg Mc) .ret) .skip)) (.seq (.reg Mb) (.seq (.seq (.reg Ma) (.cond (.t 38) (.seq (.reg L9) .ret) .skip)) (.seq (.reg L8) (.seq (.reg Fa) (.seq (.mix Fc) (.seq (.seq (.reg E9) (.block 0 Fd)) (.seq (.seq (.reg E5) (.cond (.t 86) (.seq (.reg E4) .ret) .skip)) (.seq (.reg E3) .ret))))))))))),[.ld 4 true (.t 4),.mv (.t 5)]⟩
theorem Cn:bJ Try.prog (aK Try.prog 17) 17=some QC:=by kernel_rfl
/-! allocate.Live-/
abbrev L6:List AO:=
 [o1 1 (.bx 25 0 (.t 0)),o1 2 (.mv (.c .sl0)),o1 3 (.mv (ci 0))]
abbrev L5:List AO:=
 [o1 12 (.ld 4 true (.t 1)),
  (o2 13 27 [.t 12]),
  (mt 11 13),o1 14 (.ext 0 (.t 11)),o1 15 (.ext 1 (.t 11)),
  (mt 4 14),
  (mt 5 15)]
abbrev L4:List AO:=
 [(mt 16 5),o1 17 (.bin .neq (.t 16) (ci 0))]
abbrev L3:List AO:=
 [(mt 18 5),o1 2 (.mv (.c .sl0)),
  (mt 3 18)]
abbrev L2:List AO:=
 [o1 20 (.fa 3 (.t 1)),o1 21 (.ld 1 false (.t 20)),
  (o2 22 36 [.t 21]),
  (mt 19 22),o1 23 (.ext 0 (.t 19)),o1 24 (.ext 1 (.t 19)),
  (mt 6 23),
  (mt 7 24)]
abbrev L1:List AO:=
 [o1 8 (.mv (.c .sl0))]
abbrev L0:List AO:=
 [(mt 25 6),o1 26 (.len (.t 25)),o1 27 (.mv (ci 0))]
abbrev LZ:List AO:=
 [o1 28 (.bin .lss (.t 27) (.t 26))]
abbrev LY:List AO:=
 [o1 29 (.ia 1 (.t 25) (.t 27)),o1 30 (.ld 1 false (.t 29)),
  (mt 10 30)]
abbrev LX:List AO:=
 [(mt 31 8),
  (mt 32 10),
  (o2 33 38 [.t 32]),
  (o2 34 37 [.t 33]),o1 35 (.bs 39 1 1 [.sl0] [(0,1,(.t 34))]),o1 36 (.app 39 1 24 (.t 31) (.t 35)),
  (mt 8 36)]
abbrev E0:AC:=
 (.seq (.reg LY) (.reg LX))
abbrev EY:List AO:=
 [o1 37 (.bin .add (.t 27) (ci 1)),
  (mt 27 37)]
abbrev E1:AC:=
 (.seq (.reg LZ) (.seq (.cond (.t 28) .skip (.exit 0)) (.seq (.block 1 E0) (.reg EY))))
abbrev EZ:AC:=
 (.loop E1)
abbrev EX:List AO:=
 [(mt 38 8),
  (mt 2 38),o1 3 (.mv (ci 0))]
abbrev QB:AF:=⟨39,(.seq (.reg L6) (.seq (.seq (.reg L5) (.seq (.reg L4) (.cond (.t 17) (.seq (.reg L3) .ret) .skip))) (.seq (.reg L2) (.seq (.reg L1) (.seq (.seq (.reg L0) (.block 0 EZ)) (.seq (.reg EX) .ret)))))),[.mv (.t 2),.mv (.t 3)]⟩
theorem L7:bJ Try.prog (aK Try.prog 11) 11=some QB:=by kernel_rfl
/-! slices.Concat[[]api.RegInstr,api.RegInstr]-/
abbrev LS:List AO:=
 [o1 2 (.mv (.c .sl0))]
abbrev LR:List AO:=
 [o1 3 (.mv (ci 0))]
abbrev LQ:List AO:=
 [(mt 9 0),o1 10 (.len (.t 9)),o1 11 (.mv (ci 0))]
abbrev LP:List AO:=
 [o1 12 (.bin .lss (.t 11) (.t 10))]
abbrev LO:List AO:=
 [o1 13 (.ia 1 (.t 9) (.t 11)),o1 14 (.ld 1 false (.t 13)),
  (mt 5 14)]
abbrev LN:List AO:=
 [(mt 15 3),
  (mt 16 5),o1 17 (.len (.t 16)),o1 18 (.bin .add (.t 15) (.t 17)),
  (mt 3 18)]
abbrev LM:List AO:=
 [(mt 19 3),o1 20 (.bin .lss (.t 19) (ci 0))]
abbrev LV:AC:=
 (.seq (.reg LO) (.seq (.reg LN) (.seq (.reg LM) (.cond (.t 20) .die .skip))))
abbrev LL:List AO:=
 [o1 22 (.bin .add (.t 11) (ci 1)),
  (mt 11 22)]
abbrev LW:AC:=
 (.seq (.reg LP) (.seq (.cond (.t 12) .skip (.exit 0)) (.seq (.block 1 LV) (.reg LL))))
abbrev EV:AC:=
 (.loop LW)
abbrev ES:List AO:=
 [(mt 23 3),
  (o2 24 95 [(.c .sl0),.t 23]),
  (mt 6 24)]
abbrev EP:List AO:=
 [(mt 25 0),o1 26 (.len (.t 25)),o1 27 (.mv (ci 0))]
abbrev EO:List AO:=
 [o1 28 (.bin .lss (.t 27) (.t 26))]
abbrev EM:List AO:=
 [o1 29 (.ia 1 (.t 25) (.t 27)),o1 30 (.ld 1 false (.t 29)),
  (mt 8 30)]
abbrev EL:List AO:=
 [(mt 31 6),
  (mt 32 8),o1 33 (.app 60 5 40 (.t 31) (.t 32)),
  (mt 6 33)]
abbrev EU:AC:=
 (.seq (.reg EM) (.reg EL))
abbrev EK:List AO:=
 [o1 34 (.bin .add (.t 27) (ci 1)),
  (mt 27 34)]
abbrev EW:AC:=
 (.seq (.reg EO) (.seq (.cond (.t 28) .skip (.exit 2)) (.seq (.block 3 EU) (.reg EK))))
abbrev ET:AC:=
 (.loop EW)
abbrev EJ:List AO:=
 [(mt 35 6),
  (mt 2 35)]
abbrev QA:AF:=⟨36,(.seq (.reg LS) (.seq (.reg LR) (.seq (.seq (.reg LQ) (.block 0 EV)) (.seq (.reg ES) (.seq (.seq (.reg EP) (.block 2 ET)) (.seq (.reg EJ) .ret)))))),[.mv (.t 2)]⟩
theorem LU:bJ Try.prog (aK Try.prog 78) 78=some QA:=by kernel_rfl
/-! slices.Grow[[]api.RegInstr,api.RegInstr]-/
abbrev LJ:List AO:=
 [o1 4 (.mv (.c .sl0))]
abbrev LI:List AO:=
 [(mt 5 1),o1 6 (.bin .lss (.t 5) (ci 0))]
abbrev LH:List AO:=
 [(mt 8 1),
  (mt 9 0),o1 10 (.cpc (.t 9)),
  (mt 11 0),o1 12 (.len (.t 11)),o1 13 (.bin .sub (.t 10) (.t 12)),o1 14 (.bin .sub (.t 8) (.t 13)),
  (mt 1 14)]
abbrev LG:List AO:=
 [(mt 15 1),o1 16 (.bin .gtr (.t 15) (ci 0))]
abbrev LF:List AO:=
 [(mt 17 0),
  (mt 18 0),o1 19 (.cpc (.t 18)),o1 20 (.sl 5 (.t 17) none (some (.t 19))),
  (mt 21 1),o1 22 (.apm 60 5 40 [.n .i64 0,.n .i64 0,.n .i64 0,.n .i64 0,.n .u32 0] (.t 20) (.t 21)),
  (mt 23 0),o1 24 (.len (.t 23)),o1 25 (.sl 5 (.t 22) none (some (.t 24))),
  (mt 0 25)]
abbrev LD:List AO:=
 [(mt 26 0),
  (mt 4 26)]
abbrev Qz:AF:=⟨27,(.seq (.reg LJ) (.seq (.seq (.reg LI) (.cond (.t 6) .die .skip)) (.seq (.seq (.reg LH) (.seq (.reg LG) (.cond (.t 16) (.reg LF) .skip))) (.seq (.reg LD) .ret)))),[.mv (.t 4)]⟩
theorem LK:bJ Try.prog (aK Try.prog 95) 95=some Qz:=by kernel_rfl
/-! slices.DeleteFunc[[]api.RegInstr,api.RegInstr]-/
/-! allocate.liveness-/
abbrev Lz:List AO:=
 [o1 2 (.mv (.c .sl0)),o1 3 (.mv (.c .sl0))]
abbrev Ly:List AO:=
 [(mt 18 0),
  (o2 19 66 [.t 18]),o1 4 (.al 28 [.sl0]),
  (o3 (.st 1 (.t 4) (.t 19)))]
abbrev Lx:List AO:=
 [(mt 20 0),o1 21 (.len (.t 20)),o1 22 (.bin .add (.t 21) (ci 1)),o1 23 (.ms 70 1 8 [.cv (.map none)] (.t 22) (.t 22)),o1 5 (.al 66 [.sl0]),
  (o3 (.st 1 (.t 5) (.t 23)))]
abbrev Lw:List AO:=
 [o1 24 (.ld 1 false (.t 5)),o1 25 (.len (.t 24)),o1 26 (.mv (ci 0))]
abbrev Lu:List AO:=
 [o1 27 (.bin .lss (.t 26) (.t 25))]
abbrev Ls:List AO:=
 [(mt 28 26),
  (mt 6 28)]
abbrev Lr:List AO:=
 [o1 29 (.ld 1 false (.t 5)),
  (mt 30 6),⟨some 31,none,.mo (.mm)⟩,o1 32 (.ia 1 (.t 29) (.t 30)),
  (o3 (.st 1 (.t 32) (.t 31)))]
abbrev LB:AC:=
 (.seq (.reg Ls) (.reg Lr))
abbrev Lq:List AO:=
 [o1 33 (.bin .add (.t 26) (ci 1)),
  (mt 26 33)]
abbrev LC:AC:=
 (.seq (.reg Lu) (.seq (.cond (.t 27) .skip (.exit 0)) (.seq (.block 1 LB) (.reg Lq))))
abbrev EE:AC:=
 (.loop LC)
abbrev Es:List AO:=
 [o1 7 (.al 4 [.b false]),
  (o3 (.st 1 (.t 7) (.c (.b true))))]
abbrev Er:List AO:=
 [o1 34 (.ld 1 false (.t 7))]
abbrev Ep:List AO:=
 [(o3 (.st 1 (.t 7) (.c (.b false))))]
abbrev Eo:List AO:=
 [(mt 35 0),
  (o2 36 67 [.t 35])]
abbrev En:List AO:=
 [(mt 8 37)]
abbrev Em:List AO:=
 [o1 9 (.al 60 [.n .i64 0,.n .i64 0,.n .i64 0,.n .i64 0,.n .u32 0]),
  (o3 (.st 5 (.t 9) (.t 38)))]
abbrev El:List AO:=
 [o1 39 (.ld 1 false (.t 5)),
  (mt 40 8),o1 41 (.ia 1 (.t 39) (.t 40)),o1 42 (.ld 1 false (.t 41)),⟨some 43,none,.mo (.ln (.t 42))⟩,
  (mt 10 43)]
abbrev Ek:List AO:=
 [o1 45 (.ld 5 true (.t 9)),
  (o2 46 68 [.t 45]),
  (mt 44 46),o1 47 (.ext 0 (.t 44)),o1 48 (.ext 1 (.t 44)),
  (mt 11 47),
  (mt 12 48)]
abbrev Ej:List AO:=
 [o1 49 (.ld 1 false (.t 4)),
  (mt 50 8),o1 51 (.ia 1 (.t 49) (.t 50)),o1 52 (.ld 1 false (.t 51)),o1 53 (.len (.t 52)),o1 54 (.mv (ci 0))]
abbrev Ei:List AO:=
 [o1 55 (.bin .lss (.t 54) (.t 53))]
abbrev Eh:List AO:=
 [o1 56 (.ia 1 (.t 52) (.t 54)),o1 57 (.ld 1 false (.t 56)),
  (mt 14 57)]
abbrev Eg:List AO:=
 [o1 58 (.ld 1 false (.t 5)),
  (mt 59 14),o1 60 (.ia 1 (.t 58) (.t 59)),o1 61 (.ld 1 false (.t 60)),⟨some 62,none,.mo (.rg (.t 61))⟩]
abbrev Ef:List AO:=
 [⟨some 63,none,.mo (.nx (.t 62))⟩,o1 64 (.ext 0 (.t 63))]
abbrev Ee:List AO:=
 [⟨some 65,none,.mo (.en (.t 62))⟩,o1 66 (.ext 0 (.t 65)),
  (mt 15 66)]
abbrev Ed:List AO:=
 [(mt 67 15),
  (mt 68 12),o1 69 (.bin .neq (.t 67) (.t 68))]
abbrev Ec:List AO:=
 [o1 70 (.ld 1 false (.t 5)),
  (mt 71 8),o1 72 (.ia 1 (.t 70) (.t 71)),o1 73 (.ld 1 false (.t 72)),
  (mt 74 15),⟨none,none,.mo (.mu (.t 73) (.t 74) (.c (.b true)))⟩]
abbrev ED:AC:=
 (.seq (.reg Ee) (.seq (.reg Ed) (.cond (.t 69) (.reg Ec) .skip)))
abbrev EI:AC:=
 (.seq (.reg Ef) (.seq (.cond (.t 64) .skip (.exit 8)) (.block 9 ED)))
abbrev EC:AC:=
 (.loop EI)
abbrev EB:AC:=
 (.seq (.reg Eh) (.seq (.reg Eg) (.block 8 EC)))
abbrev Eb:List AO:=
 [o1 75 (.bin .add (.t 54) (ci 1)),
  (mt 54 75)]
abbrev EH:AC:=
 (.seq (.reg Ei) (.seq (.cond (.t 55) .skip (.exit 6)) (.seq (.block 7 EB) (.reg Eb))))
abbrev EA:AC:=
 (.loop EH)
abbrev Ea:List AO:=
 [(mt 76 11),o1 77 (.len (.t 76)),o1 78 (.mv (ci 0))]
abbrev D9:List AO:=
 [o1 79 (.bin .lss (.t 78) (.t 77))]
abbrev D8:List AO:=
 [o1 80 (.ia 1 (.t 76) (.t 78)),o1 81 (.ld 1 false (.t 80)),
  (mt 17 81)]
abbrev D7:List AO:=
 [o1 82 (.ld 1 false (.t 5)),
  (mt 83 8),o1 84 (.ia 1 (.t 82) (.t 83)),o1 85 (.ld 1 false (.t 84)),
  (mt 86 17),⟨none,none,.mo (.mu (.t 85) (.t 86) (.c (.b true)))⟩]
abbrev Ez:AC:=
 (.seq (.reg D8) (.reg D7))
abbrev D6:List AO:=
 [o1 87 (.bin .add (.t 78) (ci 1)),
  (mt 78 87)]
abbrev EG:AC:=
 (.seq (.reg D9) (.seq (.cond (.t 79) .skip (.exit 10)) (.seq (.block 11 Ez) (.reg D6))))
abbrev Ey:AC:=
 (.loop EG)
abbrev D5:List AO:=
 [o1 88 (.ld 1 false (.t 7)),
  (mt 89 88),
  (o4 90 89 (.ld 1 false (.t 5))),
  (o4 91 89 (.mv (.t 8))),
  (o4 92 89 (.ia 1 (.t 90) (.t 91))),
  (o4 93 89 (.ld 1 false (.t 92))),⟨some 94,some (89,false),.mo (.ln (.t 93))⟩,
  (o4 95 89 (.mv (.t 10))),
  (o4 96 89 (.bin .gtr (.t 94) (.t 95))),o1 97 (.pick (.t 89) (.c (.b true)) (.t 96)),
  (o3 (.st 1 (.t 7) (.t 97)))]
abbrev Ex:AC:=
 (.seq (.reg El) (.seq (.reg Ek) (.seq (.seq (.reg Ej) (.block 6 EA)) (.seq (.seq (.reg Ea) (.block 10 Ey)) (.reg D5)))))
abbrev wF:AC:=
 (.block 5 Ex)
abbrev Ew:AC:=
 (.rf (.t 36) 37 38 (.seq (.reg En) (.reg Em)) wF)
abbrev Ev:AC:=
 (.seq (.reg Ep) (.seq (.reg Eo) (.block 4 Ew)))
abbrev D4:List AO:=
 [o1 98 (.ld 1 false (.t 7))]
abbrev D3:List AO:=
 [o1 7 (.al 4 [.b false]),
  (o3 (.st 1 (.t 7) (.t 98)))]
abbrev EF:AC:=
 (.seq (.seq (.reg Er) (.cond (.t 34) .skip (.exit 2))) (.seq (.block 3 Ev) (.seq (.reg D4) (.reg D3))))
abbrev Eu:AC:=
 (.loop EF)
abbrev Et:List (Nat×AO):=
 [(1,(o1 99 (.ld 1 false (.t 5)))),
  (2,(mt 2 99)),(1,(o1 100 (.ld 1 false (.t 4)))),
  (2,(mt 3 100))]
abbrev Qy:AF:=⟨101,(.seq (.reg Lz) (.seq (.reg Ly) (.seq (.reg Lx) (.seq (.seq (.reg Lw) (.block 0 EE)) (.seq (.seq (.reg Es) (.block 2 Eu)) (.seq (.mix Et) .ret)))))),[.mv (.t 2),.mv (.t 3)]⟩
theorem LA:bJ Try.prog (aK Try.prog 36) 36=some Qy:=by kernel_rfl
/-! slices.Backward[[]api.RegInstr,api.RegInstr]-/
abbrev Lo:List AO:=
 [o1 1 (.bx 23 0 (.t 0)),o1 2 (.mv (.c .f0))]
abbrev Ln:List AO:=
 [o1 3 (.mf 87 [] [.t 1]),
  (mt 2 3)]
abbrev Qx:AF:=⟨4,(.seq (.reg Lo) (.seq (.reg Ln) .ret)),[.mv (.t 2)]⟩
theorem Lp:bJ Try.prog (aK Try.prog 67) 67=some Qx:=by kernel_rfl
/-! maps.Keys[allocate.set,int,bool]-/
abbrev Ll:List AO:=
 [o1 1 (.bx 70 0 (.t 0)),o1 2 (.mv (.c .f0))]
abbrev Lk:List AO:=
 [o1 3 (.mf 71 [] [.t 1]),
  (mt 2 3)]
abbrev Qw:AF:=⟨4,(.seq (.reg Ll) (.seq (.reg Lk) .ret)),[.mv (.t 2)]⟩
theorem Lm:bJ Try.prog (aK Try.prog 38) 38=some Qw:=by kernel_rfl
/-! allocate.Pressure-/
abbrev Lg:List AO:=
 [o1 1 (.bx 25 0 (.t 0)),o1 2 (.mv (ci 0)),o1 3 (.mv (ci 0))]
abbrev Lf:List AO:=
 [o1 10 (.ld 4 true (.t 1)),
  (o2 11 11 [.t 10]),
  (mt 9 11),o1 12 (.ext 0 (.t 9)),o1 13 (.ext 1 (.t 9)),
  (mt 4 12),
  (mt 5 13)]
abbrev Ld:List AO:=
 [o1 6 (.mv (ci 0))]
abbrev Lc:List AO:=
 [(mt 14 4),o1 15 (.len (.t 14)),o1 16 (.mv (ci 0))]
abbrev Lb:List AO:=
 [o1 17 (.bin .lss (.t 16) (.t 15))]
abbrev La:List AO:=
 [o1 18 (.ia 1 (.t 14) (.t 16)),o1 19 (.ld 1 false (.t 18)),
  (mt 8 19)]
abbrev K9:List AO:=
 [(mt 20 6),
  (mt 21 8),o1 22 (.len (.t 21)),⟨some 23,none,.mo (.mx (.t 20) (.t 22))⟩,
  (mt 6 23)]
abbrev Li:AC:=
 (.seq (.reg La) (.reg K9))
abbrev K8:List AO:=
 [o1 24 (.bin .add (.t 16) (ci 1)),
  (mt 16 24)]
abbrev Lj:AC:=
 (.seq (.reg Lb) (.seq (.cond (.t 17) .skip (.exit 0)) (.seq (.block 1 Li) (.reg K8))))
abbrev D2:AC:=
 (.loop Lj)
abbrev D1:List AO:=
 [(mt 25 6),
  (mt 26 5),
  (mt 2 25),
  (mt 3 26)]
abbrev Qv:AF:=⟨27,(.seq (.reg Lg) (.seq (.reg Lf) (.seq (.reg Ld) (.seq (.seq (.reg Lc) (.block 0 D2)) (.seq (.reg D1) .ret))))),[.mv (.t 2),.mv (.t 3)]⟩
theorem Lh:bJ Try.prog (aK Try.prog 13) 13=some Qv:=by kernel_rfl
/-! allocate.colors-/
abbrev K6:List AO:=
 [o1 2 (.mv (.c (.cv (.map none)))),o1 3 (.mv (ci 0))]
abbrev K5:List AO:=
 [(mt 14 0),
  (o2 15 74 [.t 14]),
  (mt 4 15)]
abbrev K4:List AO:=
 [⟨some 16,none,.mo (.mm)⟩,
  (mt 5 16)]
abbrev K3:List AO:=
 [o1 6 (.mv (ci 0))]
abbrev K2:List AO:=
 [(mt 17 0),
  (o2 18 52 [.t 17]),o1 19 (.len (.t 18)),o1 20 (.mv (ci 0))]
abbrev K1:List AO:=
 [o1 21 (.bin .lss (.t 20) (.t 19))]
abbrev KZ:List AO:=
 [o1 22 (.ia 1 (.t 18) (.t 20)),o1 23 (.ld 1 false (.t 22)),
  (mt 8 23)]
abbrev KY:List AO:=
 [⟨some 24,none,.mo (.mm)⟩,
  (mt 9 24)]
abbrev KX:List AO:=
 [(mt 25 4),
  (mt 26 8),⟨some 27,none,.mo (.lk (.cv (.map none)) false (.t 25) (.t 26))⟩,⟨some 28,none,.mo (.rg (.t 27))⟩]
abbrev KW:List AO:=
 [⟨some 29,none,.mo (.nx (.t 28))⟩,o1 30 (.ext 0 (.t 29))]
abbrev DQ:List AO:=
 [⟨some 31,none,.mo (.en (.t 28))⟩,o1 32 (.ext 0 (.t 31)),
  (mt 10 32)]
abbrev DP:List AO:=
 [(mt 34 5),
  (mt 35 10),⟨some 36,none,.mo (.lk (.n .i64 0) true (.t 34) (.t 35))⟩,
  (mt 33 36),o1 37 (.ext 0 (.t 33)),o1 38 (.ext 1 (.t 33)),
  (mt 11 37),
  (mt 12 38)]
abbrev DN:List AO:=
 [(mt 39 12)]
abbrev DM:List AO:=
 [(mt 40 9),
  (mt 41 11),⟨none,none,.mo (.mu (.t 40) (.t 41) (.c (.b true)))⟩]
abbrev DW:AC:=
 (.seq (.reg DQ) (.seq (.reg DP) (.seq (.reg DN) (.cond (.t 39) (.reg DM) .skip))))
abbrev DZ:AC:=
 (.seq (.reg KW) (.seq (.cond (.t 30) .skip (.exit 2)) (.block 3 DW)))
abbrev DV:AC:=
 (.loop DZ)
abbrev DL:List AO:=
 [o1 13 (.mv (ci 0))]
abbrev DK:List AO:=
 [(mt 42 9),
  (mt 43 13),⟨some 44,none,.mo (.lk (.b false) false (.t 42) (.t 43))⟩]
abbrev DJ:List AO:=
 [(mt 45 13),o1 46 (.bin .add (.t 45) (ci 1)),
  (mt 13 46)]
abbrev DU:AC:=
 (.reg DJ)
abbrev DY:AC:=
 (.seq (.seq (.reg DK) (.cond (.t 44) .skip (.exit 4))) (.block 5 DU))
abbrev wE:AC:=
 (.loop DY)
abbrev wD:List AO:=
 [(mt 47 5),
  (mt 48 8),
  (mt 49 13),⟨none,none,.mo (.mu (.t 47) (.t 48) (.t 49))⟩]
abbrev wC:List AO:=
 [(mt 50 6),
  (mt 51 13),o1 52 (.bin .add (.t 51) (ci 1)),⟨some 53,none,.mo (.mx (.t 50) (.t 52))⟩,
  (mt 6 53)]
abbrev DT:AC:=
 (.seq (.reg KZ) (.seq (.reg KY) (.seq (.seq (.reg KX) (.block 2 DV)) (.seq (.reg DL) (.seq (.block 4 wE) (.seq (.reg wD) (.reg wC)))))))
abbrev DI:List AO:=
 [o1 54 (.bin .add (.t 20) (ci 1)),
  (mt 20 54)]
abbrev DX:AC:=
 (.seq (.reg K1) (.seq (.cond (.t 21) .skip (.exit 0)) (.seq (.block 1 DT) (.reg DI))))
abbrev DS:AC:=
 (.loop DX)
abbrev DH:List AO:=
 [(mt 55 5),
  (mt 56 6),
  (mt 2 55),
  (mt 3 56)]
abbrev Qu:AF:=⟨57,(.seq (.reg K6) (.seq (.reg K5) (.seq (.reg K4) (.seq (.reg K3) (.seq (.seq (.reg K2) (.block 0 DS)) (.seq (.reg DH) .ret)))))),[.mv (.t 2),.mv (.t 3)]⟩
theorem K7:bJ Try.prog (aK Try.prog 42) 42=some Qu:=by kernel_rfl
/-! compactorref25.Few-/
abbrev KU:List AO:=
 [o1 1 (.bx 25 0 (.t 0)),o1 2 (.mv (.c (.b false)))]
abbrev KS:List AO:=
 [o1 3 (.ld 4 true (.t 1)),
  (o2 4 33 [.t 3]),
  (mt 5 4),
  (o5 6 5 (.fa 1 (.t 1))),
  (o5 7 5 (.ld 1 false (.t 6))),
  (o5 8 5 (.bin .leq (.t 7) (ci 60))),
  (o5 9 5 (.mv (.t 8))),
  (o4 10 9 (.fa 1 (.t 1))),
  (o4 11 9 (.ld 1 false (.t 10))),
  (o4 12 9 (.bin .gtr (.t 11) (ci 1024))),
  (o5 13 5 (.pick (.t 9) (.c (.b true)) (.t 12))),o1 14 (.pick (.t 5) (.t 13) (.c (.b false))),
  (mt 2 14)]
abbrev Qt:AF:=⟨15,(.seq (.reg KU) (.seq (.reg KS) .ret)),[.mv (.t 2)]⟩
theorem KV:bJ Try.prog (aK Try.prog 9) 9=some Qt:=by kernel_rfl
/-! compactorref25.Live-/
abbrev KP:List AO:=
 [o1 1 (.bx 25 0 (.t 0)),o1 2 (.mv (.c .sl0)),o1 3 (.mv (ci 0))]
abbrev KO:List AO:=
 [o1 10 (.ld 4 true (.t 1)),
  (o2 11 39 [.t 10]),
  (mt 9 11),o1 12 (.ext 0 (.t 9)),o1 13 (.ext 1 (.t 9)),
  (mt 4 12),
  (mt 5 13)]
abbrev KN:List AO:=
 [(mt 14 5),o1 15 (.bin .neq (.t 14) (ci 0))]
abbrev KM:List AO:=
 [(mt 16 5),o1 2 (.mv (.c .sl0)),
  (mt 3 16)]
abbrev KL:List AO:=
 [o1 17 (.ld 4 true (.t 1)),
  (o2 18 40 [.t 17]),
  (mt 6 18)]
abbrev KK:List AO:=
 [o1 7 (.mv (.c .sl0))]
abbrev KJ:List AO:=
 [o1 8 (.mv (ci 0))]
abbrev KI:List AO:=
 [(mt 19 8),
  (mt 20 6),o1 21 (.len (.t 20)),o1 22 (.bin .lss (.t 19) (.t 21))]
abbrev KH:List AO:=
 [(mt 25 7),
  (mt 26 6),
  (mt 27 8),o1 28 (.ia 1 (.t 26) (.t 27)),o1 29 (.ld 1 false (.t 28)),
  (o2 30 41 [.t 29]),o1 31 (.bs 39 1 1 [.sl0] [(0,1,(.t 30))]),o1 32 (.app 39 1 24 (.t 25) (.t 31)),
  (mt 7 32)]
abbrev KR:AC:=
 (.reg KH)
abbrev DE:List AO:=
 [(mt 23 8),o1 24 (.bin .add (.t 23) (ci 1)),
  (mt 8 24)]
abbrev DG:AC:=
 (.seq (.seq (.reg KI) (.cond (.t 22) .skip (.exit 0))) (.seq (.block 1 KR) (.reg DE)))
abbrev DF:AC:=
 (.loop DG)
abbrev DD:List AO:=
 [(mt 33 7),
  (mt 2 33),o1 3 (.mv (ci 0))]
abbrev Qh:AF:=⟨34,(.seq (.reg KP) (.seq (.seq (.reg KO) (.seq (.reg KN) (.cond (.t 15) (.seq (.reg KM) .ret) .skip))) (.seq (.reg KL) (.seq (.reg KK) (.seq (.seq (.reg KJ) (.block 0 DF)) (.seq (.reg DD) .ret)))))),[.mv (.t 2),.mv (.t 3)]⟩
theorem KQ:bJ Try.prog (aK Try.prog 12) 12=some Qh:=by kernel_rfl
/-! compactorref25.Pressure-/
/-! compactorref25.Allocate-/
/-! compactorref25.Compact-/
/-! compactorref25.live-/
abbrev KD:List AO:=
 [o1 1 (.bx 25 0 (.t 0)),o1 2 (.mv (.c .sl0))]
abbrev KC:List AO:=
 [o1 18 (.fa 3 (.t 1)),o1 19 (.ld 1 false (.t 18)),
  (o2 20 23 [.t 19]),
  (mt 17 20),o1 21 (.ext 0 (.t 17)),o1 22 (.ext 1 (.t 17)),o1 23 (.ext 2 (.t 17)),
  (mt 3 21),
  (mt 4 22),
  (mt 5 23)]
abbrev KB:List AO:=
 [o1 24 (.fa 3 (.t 1)),o1 25 (.ld 1 false (.t 24)),o1 26 (.len (.t 25)),
  (mt 6 26)]
abbrev KA:List AO:=
 [o1 7 (.mv (.c .sl0))]
abbrev Kz:List AO:=
 [o1 8 (.mv (ci 0))]
abbrev Ky:List AO:=
 [(mt 27 8),
  (mt 28 6),o1 29 (.bin .leq (.t 27) (.t 28))]
abbrev Kx:List AO:=
 [(mt 32 7),o1 33 (.fa 1 (.t 1)),o1 34 (.ld 1 false (.t 33)),o1 35 (.ms 4 1 1 [.b false] (.t 34) (.t 34)),o1 36 (.bs 55 1 1 [.sl0] [(0,1,(.t 35))]),o1 37 (.app 55 1 24 (.t 32) (.t 36)),
  (mt 7 37)]
abbrev KF:AC:=
 (.reg Kx)
abbrev Kw:List AO:=
 [(mt 30 8),o1 31 (.bin .add (.t 30) (ci 1)),
  (mt 8 31)]
abbrev KG:AC:=
 (.seq (.seq (.reg Ky) (.cond (.t 29) .skip (.exit 0))) (.seq (.block 1 KF) (.reg Kw)))
abbrev Dy:AC:=
 (.loop KG)
abbrev Dq:List AO:=
 [o1 9 (.mv (.c (.b true)))]
abbrev Dp:List AO:=
 [(mt 38 9)]
abbrev Dn:List AO:=
 [o1 9 (.mv (.c (.b false)))]
abbrev Dm:List AO:=
 [(mt 39 6),o1 40 (.bin .sub (.t 39) (ci 1)),
  (mt 10 40)]
abbrev Dl:List AO:=
 [(mt 41 10),o1 42 (.bin .geq (.t 41) (ci 0))]
abbrev Dk:List AO:=
 [o1 46 (.fa 3 (.t 1)),o1 47 (.ld 1 false (.t 46)),
  (mt 48 10),o1 49 (.ia 5 (.t 47) (.t 48)),o1 50 (.ld 5 true (.t 49)),
  (o2 51 57 [.t 50]),
  (mt 45 51),o1 52 (.ext 0 (.t 45)),o1 53 (.ext 1 (.t 45)),
  (mt 11 52),
  (mt 12 53)]
abbrev Dj:List AO:=
 [o1 54 (.fa 3 (.t 1)),o1 55 (.ld 1 false (.t 54)),
  (mt 56 3),
  (mt 57 10),
  (o2 58 59 [.t 55,.t 56,.t 57]),
  (mt 13 58)]
abbrev Di:List AO:=
 [o1 14 (.mv (ci 0))]
abbrev Dh:List AO:=
 [(mt 59 14),o1 60 (.fa 1 (.t 1)),o1 61 (.ld 1 false (.t 60)),o1 62 (.bin .lss (.t 59) (.t 61))]
abbrev Dg:List AO:=
 [(mt 65 11),
  (mt 66 14),
  (o2 67 73 [.t 65,.t 66]),
  (mt 15 67)]
abbrev Df:List AO:=
 [o1 16 (.mv (ci 0))]
abbrev De:List AO:=
 [(mt 68 16),
  (mt 69 13),o1 70 (.len (.t 69)),o1 71 (.bin .lss (.t 68) (.t 70))]
abbrev Dd:List AO:=
 [(mt 74 15),
  (mt 75 74),
  (o4 76 75 (.mv (.t 7))),
  (o4 77 75 (.mv (.t 13))),
  (o4 78 75 (.mv (.t 16))),
  (o4 79 75 (.ia 1 (.t 77) (.t 78))),
  (o4 80 75 (.ld 1 false (.t 79))),
  (o4 81 75 (.ia 1 (.t 76) (.t 80))),
  (o4 82 75 (.ld 1 false (.t 81))),
  (o4 83 75 (.mv (.t 14))),
  (o4 84 75 (.ia 1 (.t 82) (.t 83))),
  (o4 85 75 (.ld 1 false (.t 84))),
  (o4 86 75 (.mv (.t 85))),
  (o5 87 86 (.mv (.t 14))),
  (o5 88 86 (.mv (.t 12))),
  (o5 89 86 (.bin .neq (.t 87) (.t 88))),
  (o4 90 75 (.pick (.t 86) (.t 89) (.c (.b false)))),o1 91 (.pick (.t 75) (.c (.b true)) (.t 90)),
  (mt 15 91)]
abbrev Dx:AC:=
 (.reg Dd)
abbrev Dc:List AO:=
 [(mt 72 16),o1 73 (.bin .add (.t 72) (ci 1)),
  (mt 16 73)]
abbrev DC:AC:=
 (.seq (.seq (.reg De) (.cond (.t 71) .skip (.exit 8))) (.seq (.block 9 Dx) (.reg Dc)))
abbrev Dw:AC:=
 (.loop DC)
abbrev Db:List AO:=
 [(mt 92 15),
  (mt 93 92),
  (o5 94 93 (.mv (.t 7))),
  (o5 95 93 (.mv (.t 10))),
  (o5 96 93 (.ia 1 (.t 94) (.t 95))),
  (o5 97 93 (.ld 1 false (.t 96))),
  (o5 98 93 (.mv (.t 14))),
  (o5 99 93 (.ia 1 (.t 97) (.t 98))),
  (o5 100 93 (.ld 1 false (.t 99))),
  (o5 101 93 (.un .not (.t 100))),o1 102 (.pick (.t 93) (.t 101) (.c (.b false)))]
abbrev Da:List AO:=
 [(mt 103 7),
  (mt 104 10),o1 105 (.ia 1 (.t 103) (.t 104)),o1 106 (.ld 1 false (.t 105)),
  (mt 107 14),o1 108 (.ia 1 (.t 106) (.t 107)),
  (o3 (.st 1 (.t 108) (.c (.b true))))]
abbrev C9:List AO:=
 [o1 9 (.mv (.c (.b true)))]
abbrev wB:AC:=
 (.seq (.reg Dg) (.seq (.seq (.reg Df) (.block 8 Dw)) (.seq (.reg Db) (.cond (.t 102) (.seq (.reg Da) (.reg C9)) .skip))))
abbrev C8:List AO:=
 [(mt 63 14),o1 64 (.bin .add (.t 63) (ci 1)),
  (mt 14 64)]
abbrev DB:AC:=
 (.seq (.seq (.reg Dh) (.cond (.t 62) .skip (.exit 6))) (.seq (.block 7 wB) (.reg C8)))
abbrev Dv:AC:=
 (.loop DB)
abbrev Du:AC:=
 (.seq (.reg Dk) (.seq (.reg Dj) (.seq (.reg Di) (.block 6 Dv))))
abbrev C7:List AO:=
 [(mt 43 10),o1 44 (.bin .sub (.t 43) (ci 1)),
  (mt 10 44)]
abbrev DA:AC:=
 (.seq (.seq (.reg Dl) (.cond (.t 42) .skip (.exit 4))) (.seq (.block 5 Du) (.reg C7)))
abbrev Dt:AC:=
 (.loop DA)
abbrev Ds:AC:=
 (.seq (.reg Dn) (.seq (.reg Dm) (.block 4 Dt)))
abbrev Dz:AC:=
 (.seq (.seq (.reg Dp) (.cond (.t 38) .skip (.exit 2))) (.block 3 Ds))
abbrev Dr:AC:=
 (.loop Dz)
abbrev C6:List AO:=
 [(mt 109 7),
  (mt 2 109)]
abbrev Qg:AF:=⟨110,(.seq (.reg KD) (.seq (.reg KC) (.seq (.reg KB) (.seq (.reg KA) (.seq (.seq (.reg Kz) (.block 0 Dy)) (.seq (.reg Dq) (.seq (.block 2 Dr) (.seq (.reg C6) .ret)))))))),[.mv (.t 2)]⟩
theorem KE:bJ Try.prog (aK Try.prog 40) 40=some Qg:=by kernel_rfl
/-! compactorref25.members-/
abbrev Kr:List AO:=
 [o1 2 (.mv (.c .sl0))]
abbrev Kq:List AO:=
 [o1 3 (.mv (.c .sl0))]
abbrev Kp:List AO:=
 [o1 4 (.mv (ci 0))]
abbrev Ko:List AO:=
 [(mt 5 4),
  (mt 6 0),o1 7 (.len (.t 6)),o1 8 (.bin .lss (.t 5) (.t 7))]
abbrev Kn:List AO:=
 [(mt 11 0),
  (mt 12 4),o1 13 (.ia 1 (.t 11) (.t 12)),o1 14 (.ld 1 false (.t 13))]
abbrev Km:List AO:=
 [(mt 15 3),
  (mt 16 4),o1 17 (.bs 3 1 1 [.n .i64 0] [(0,1,(.t 16))]),o1 18 (.app 3 1 8 (.t 15) (.t 17)),
  (mt 3 18)]
abbrev Ku:AC:=
 (.seq (.reg Kn) (.cond (.t 14) (.reg Km) .skip))
abbrev Kl:List AO:=
 [(mt 9 4),o1 10 (.bin .add (.t 9) (ci 1)),
  (mt 4 10)]
abbrev Kv:AC:=
 (.seq (.seq (.reg Ko) (.cond (.t 8) .skip (.exit 0))) (.seq (.block 1 Ku) (.reg Kl)))
abbrev Kt:AC:=
 (.loop Kv)
abbrev C5:List AO:=
 [(mt 19 3),
  (mt 2 19)]
abbrev Qf:AF:=⟨20,(.seq (.reg Kr) (.seq (.reg Kq) (.seq (.seq (.reg Kp) (.block 0 Kt)) (.seq (.reg C5) .ret)))),[.mv (.t 2)]⟩
theorem Ks:bJ Try.prog (aK Try.prog 41) 41=some Qf:=by kernel_rfl
/-! compactorref25.Colors-/
/-! compactorref25.replace-/
/-! compactorref25.renamed-/
/-! compactorref25.occurring-/
/-! compactorref25.Successors-/
abbrev Kj:List AO:=
 [o1 6 (.mv (.c .sl0))]
abbrev Ki:List AO:=
 [(mt 8 1),
  (mt 9 2),o1 10 (.ia 1 (.t 8) (.t 9)),o1 11 (.ld 1 false (.t 10)),
  (mt 7 11)]
abbrev Kh:List AO:=
 [(mt 12 0),
  (mt 13 2),o1 14 (.ia 5 (.t 12) (.t 13)),o1 15 (.fa 0 (.t 14)),o1 16 (.ld 1 false (.t 15))]
abbrev Kg:List AO:=
 [o1 18 (.bin .eql (.t 16) (ci 27)),
  (mt 17 18)]
abbrev Kf:List AO:=
 [o1 19 (.bin .eql (.t 16) (ci 29)),
  (mt 17 19)]
abbrev Ke:List AO:=
 [o1 20 (.bin .eql (.t 16) (ci 30)),
  (mt 17 20)]
abbrev Kd:List AO:=
 [(mt 21 2),o1 22 (.bin .add (.t 21) (ci 1)),
  (mt 23 7),o1 24 (.bin .add (.t 23) (ci 1)),o1 25 (.bs 3 1 2 [.n .i64 0,.n .i64 0] [(0,1,(.t 22)),(1,1,(.t 24))]),
  (mt 6 25)]
abbrev Kc:List AO:=
 [o1 27 (.bin .eql (.t 16) (ci 28)),
  (mt 26 27)]
abbrev Ka:List AO:=
 [(mt 28 7),o1 29 (.bin .add (.t 28) (ci 1)),o1 30 (.bs 3 1 1 [.n .i64 0] [(0,1,(.t 29))]),
  (mt 6 30)]
abbrev J9:List AO:=
 [o1 32 (.bin .eql (.t 16) (ci 31)),
  (mt 31 32)]
abbrev C3:List AO:=
 [(mt 33 0),
  (mt 34 7),o1 35 (.ia 5 (.t 33) (.t 34)),o1 36 (.fa 0 (.t 35)),o1 37 (.ld 1 false (.t 36)),o1 38 (.bin .eql (.t 37) (ci 29))]
abbrev C2:List AO:=
 [(mt 39 7),o1 40 (.bin .add (.t 39) (ci 1)),
  (mt 41 2),o1 42 (.bin .add (.t 41) (ci 1)),o1 43 (.bs 3 1 2 [.n .i64 0,.n .i64 0] [(0,1,(.t 40)),(1,1,(.t 42))]),
  (mt 6 43)]
abbrev C4:AC:=
 (.seq (.seq (.reg Kg) (.cond (.t 17) .skip (.seq (.reg Kf) (.cond (.t 17) .skip (.reg Ke))))) (.cond (.t 17) (.seq (.reg Kd) .ret) (.seq (.reg Kc) (.cond (.t 26) (.seq (.reg Ka) .ret) (.seq (.reg J9) (.cond (.t 31) (.seq (.reg C3) (.cond (.t 38) (.seq (.reg C2) .ret) .skip)) .skip))))))
abbrev C1:List AO:=
 [(mt 44 2),o1 45 (.bin .add (.t 44) (ci 1)),o1 46 (.bs 3 1 1 [.n .i64 0] [(0,1,(.t 45))]),
  (mt 6 46)]
abbrev Qe:AF:=⟨47,(.seq (.reg Kj) (.seq (.reg Ki) (.seq (.seq (.reg Kh) (.block 0 C4)) (.seq (.reg C1) .ret)))),[.mv (.t 6)]⟩
theorem Kk:bJ Try.prog (aK Try.prog 59) 59=some Qe:=by kernel_rfl
/-! compactorref25.has-/
abbrev J4:List AO:=
 [o1 4 (.mv (.c (.b false)))]
abbrev J3:List AO:=
 [o1 5 (.mv (ci 0))]
abbrev J2:List AO:=
 [(mt 6 5),
  (mt 7 0),o1 8 (.len (.t 7)),o1 9 (.bin .lss (.t 6) (.t 8))]
abbrev J1:List AO:=
 [(mt 12 0),
  (mt 13 5),o1 14 (.ia 1 (.t 12) (.t 13)),o1 15 (.ld 1 false (.t 14)),
  (mt 16 1),o1 17 (.bin .eql (.t 15) (.t 16))]
abbrev J0:List AO:=
 [o1 4 (.mv (.c (.b true)))]
abbrev J7:AC:=
 (.seq (.reg J1) (.cond (.t 17) (.seq (.reg J0) .ret) .skip))
abbrev JZ:List AO:=
 [(mt 10 5),o1 11 (.bin .add (.t 10) (ci 1)),
  (mt 5 11)]
abbrev J8:AC:=
 (.seq (.seq (.reg J2) (.cond (.t 9) .skip (.exit 0))) (.seq (.block 1 J7) (.reg JZ)))
abbrev J6:AC:=
 (.loop J8)
abbrev JY:List AO:=
 [o1 4 (.mv (.c (.b false)))]
abbrev Qd:AF:=⟨18,(.seq (.reg J4) (.seq (.seq (.reg J3) (.block 0 J6)) (.seq (.reg JY) .ret))),[.mv (.t 4)]⟩
theorem J5:bJ Try.prog (aK Try.prog 73) 73=some Qd:=by kernel_rfl
/-! compactorref25.interfering-/
/-! compactorref25.rename-/
/-! compactorlaw25.push-/
abbrev JW:List AO:=
 [o1 2 (.al 60 [.n .i64 0,.n .i64 0,.n .i64 0,.n .i64 0,.n .u32 0])]
abbrev JV:List AO:=
 [(mt 3 0),
  (mt 4 0),o1 5 (.bin .add (.t 4) (ci 5)),o1 6 (.cvi .u32 (.t 5)),o1 7 (.bd [.n .i64 0,.n .i64 0,.n .i64 0,.n .i64 0,.n .u32 0] [(0,1,(ci 0)),(1,1,(.t 3)),(2,1,(.c (.n .i64 (-1)))),(3,1,(.c (.n .i64 (-1)))),(4,1,(.t 6))]),
  (o3 (.st 5 (.t 2) (.t 7)))]
abbrev Qc:AF:=⟨8,(.seq (.reg JW) (.seq (.reg JV) .ret)),[.ld 5 true (.t 2)]⟩
theorem JX:bJ Try.prog (aK Try.prog 34) 34=some Qc:=by kernel_rfl
/-! compactorlaw25.emit-/
abbrev JT:List AO:=
 [o1 2 (.al 60 [.n .i64 0,.n .i64 0,.n .i64 0,.n .i64 0,.n .u32 0])]
abbrev JS:List AO:=
 [(mt 3 0),o1 4 (.bd [.n .i64 0,.n .i64 0,.n .i64 0,.n .i64 0,.n .u32 0] [(0,1,(ci 34)),(1,1,(.c (.n .i64 (-1)))),(2,1,(.t 3)),(3,1,(.c (.n .i64 (-1))))]),
  (o3 (.st 5 (.t 2) (.t 4)))]
abbrev Qb:AF:=⟨5,(.seq (.reg JT) (.seq (.reg JS) .ret)),[.ld 5 true (.t 2)]⟩
theorem JU:bJ Try.prog (aK Try.prog 35) 35=some Qb:=by kernel_rfl
/-! compactorlaw25.awake-/
abbrev JQ:List AO:=
 [o1 0 (.mv (.c (.b false)))]
abbrev JP:List AO:=
 [(o2 13 34 [(ci 0)]),
  (o2 14 34 [(ci 1)]),o1 15 (.bd [.n .i64 0,.n .i64 0,.n .i64 0,.n .i64 0,.n .u32 0] [(0,1,(ci 8)),(1,1,(ci 2)),(2,1,(ci 0)),(3,1,(ci 1))]),
  (o2 16 35 [(ci 2)]),o1 17 (.bs 60 5 4 [.n .i64 0,.n .i64 0,.n .i64 0,.n .i64 0,.n .u32 0,.n .i64 0,.n .i64 0,.n .i64 0,.n .i64 0,.n .u32 0,.n .i64 0,.n .i64 0,.n .i64 0,.n .i64 0,.n .u32 0,.n .i64 0,.n .i64 0,.n .i64 0,.n .i64 0,.n .u32 0] [(0,5,(.t 13)),(5,5,(.t 14)),(10,5,(.t 15)),(15,5,(.t 16))]),o1 18 (.bd [.sl0,.n .i64 0,.n .i64 0,.sl0] [(1,1,(ci 3)),(3,1,(.t 17))]),o1 1 (.al 25 [.sl0,.n .i64 0,.n .i64 0,.sl0]),
  (o3 (.st 4 (.t 1) (.t 18)))]
abbrev JO:List AO:=
 [o1 20 (.ld 4 true (.t 1)),
  (o2 21 11 [.t 20]),
  (mt 19 21),o1 22 (.ext 0 (.t 19)),o1 23 (.ext 1 (.t 19)),
  (mt 2 22),
  (mt 3 23)]
abbrev JN:List AO:=
 [o1 25 (.ld 4 true (.t 1)),
  (o2 26 13 [.t 25]),
  (mt 24 26),o1 27 (.ext 0 (.t 24)),o1 28 (.ext 1 (.t 24)),
  (mt 4 27),
  (mt 5 28)]
abbrev JM:List AO:=
 [o1 30 (.ld 4 true (.t 1)),
  (o2 31 17 [.t 30,(ci 4)]),
  (mt 29 31),o1 32 (.ext 0 (.t 29)),o1 33 (.ext 1 (.t 29)),o1 6 (.al 25 [.sl0,.n .i64 0,.n .i64 0,.sl0]),
  (o3 (.st 4 (.t 6) (.t 32))),
  (mt 7 33)]
abbrev JL:List AO:=
 [(mt 34 3),
  (mt 35 5),o1 36 (.bin .add (.t 34) (.t 35)),
  (mt 37 7),o1 38 (.bin .add (.t 36) (.t 37)),o1 39 (.bin .neq (.t 38) (ci 0)),
  (mt 40 39),
  (o4 41 40 (.mv (.t 2))),
  (o4 42 40 (.bs 3 1 1 [.n .i64 0] [(0,1,(ci 0))])),
  (o4 43 40 (.bs 3 1 2 [.n .i64 0,.n .i64 0] [(0,1,(ci 0)),(1,1,(ci 1))])),
  (o4 44 40 (.bs 3 1 1 [.n .i64 0] [(0,1,(ci 2))])),
  (o4 45 40 (.bs 39 1 5 [.sl0,.sl0,.sl0,.sl0,.sl0] [(0,1,(.c .sl0)),(1,1,(.t 42)),(2,1,(.t 43)),(3,1,(.t 44)),(4,1,(.c .sl0))])),⟨some 46,some (40,false),.cl (.c (.f 15 [] [])) [.t 41,.t 45,(.c (.f 16 [] []))]⟩,
  (o4 47 40 (.un .not (.t 46))),o1 48 (.pick (.t 40) (.c (.b true)) (.t 47)),
  (mt 49 48),
  (o4 50 49 (.mv (.t 4))),
  (o4 51 49 (.bin .neq (.t 50) (ci 2))),o1 52 (.pick (.t 49) (.c (.b true)) (.t 51)),
  (mt 53 52),
  (o4 54 53 (.fa 1 (.t 6))),
  (o4 55 53 (.ld 1 false (.t 54))),
  (o4 56 53 (.bin .neq (.t 55) (ci 2))),o1 57 (.pick (.t 53) (.c (.b true)) (.t 56)),
  (mt 58 57),
  (o4 59 58 (.fa 3 (.t 6))),
  (o4 60 58 (.ld 1 false (.t 59))),
  (o4 61 58 (.len (.t 60))),
  (o4 62 58 (.bin .neq (.t 61) (ci 4))),o1 63 (.pick (.t 58) (.c (.b true)) (.t 62)),
  (mt 64 63),
  (o4 65 64 (.fa 3 (.t 6))),
  (o4 66 64 (.ld 1 false (.t 65))),
  (o4 67 64 (.ia 5 (.t 66) (ci 2))),
  (o4 68 64 (.fa 1 (.t 67))),
  (o4 69 64 (.ld 1 false (.t 68))),
  (o4 70 64 (.bin .neq (.t 69) (ci 0))),o1 71 (.pick (.t 64) (.c (.b true)) (.t 70))]
abbrev JK:List AO:=
 [o1 0 (.mv (.c (.b false)))]
abbrev Cm:List AO:=
 [o1 72 (.bd [.sl0,.n .i64 0,.n .i64 0,.sl0] [(1,1,(ci 5))]),o1 8 (.al 25 [.sl0,.n .i64 0,.n .i64 0,.sl0]),
  (o3 (.st 4 (.t 8) (.t 72)))]
abbrev Cl:List AO:=
 [o1 73 (.mv (ci 0))]
abbrev JJ:List AO:=
 [o1 74 (.bin .lss (.t 73) (ci 5))]
abbrev CU:List AO:=
 [(mt 75 73),
  (mt 9 75)]
abbrev CW:List (Nat×AO):=
 [(2,(o1 76 (.fa 3 (.t 8)))),
  (2,(mt 78 9)),(1,(o1 77 (.ld 1 false (.t 76)))),
  (0,(o2 79 34 [.t 78])),(0,(o1 80 (.bs 60 5 1 [.n .i64 0,.n .i64 0,.n .i64 0,.n .i64 0,.n .u32 0] [(0,5,(.t 79))]))),(3,(o1 81 (.app 60 5 40 (.t 77) (.t 80)))),(2,(o1 82 (.fa 3 (.t 8)))),
  (3,(o3 (.st 1 (.t 82) (.t 81))))]
abbrev CY:AC:=
 (.seq (.reg CU) (.mix CW))
abbrev CT:List AO:=
 [o1 83 (.bin .add (.t 73) (ci 1)),
  (mt 73 83)]
abbrev C0:AC:=
 (.seq (.reg JJ) (.seq (.cond (.t 74) .skip (.exit 0)) (.seq (.block 1 CY) (.reg CT))))
abbrev wA:AC:=
 (.loop C0)
abbrev ww:List AO:=
 [o1 84 (.mv (ci 0))]
abbrev CS:List AO:=
 [o1 85 (.bin .lss (.t 84) (ci 5))]
abbrev CR:List AO:=
 [(mt 86 84),
  (mt 10 86)]
abbrev CV:List (Nat×AO):=
 [(2,(o1 87 (.fa 3 (.t 8)))),
  (2,(mt 89 10)),(1,(o1 88 (.ld 1 false (.t 87)))),
  (0,(o2 90 35 [.t 89])),(0,(o1 91 (.bs 60 5 1 [.n .i64 0,.n .i64 0,.n .i64 0,.n .i64 0,.n .u32 0] [(0,5,(.t 90))]))),(3,(o1 92 (.app 60 5 40 (.t 88) (.t 91)))),(2,(o1 93 (.fa 3 (.t 8)))),
  (3,(o3 (.st 1 (.t 93) (.t 92))))]
abbrev CX:AC:=
 (.seq (.reg CR) (.mix CV))
abbrev CQ:List AO:=
 [o1 94 (.bin .add (.t 84) (ci 1)),
  (mt 84 94)]
abbrev CZ:AC:=
 (.seq (.reg CS) (.seq (.cond (.t 85) .skip (.exit 2)) (.seq (.block 3 CX) (.reg CQ))))
abbrev wy:AC:=
 (.loop CZ)
abbrev wv:List AO:=
 [o1 96 (.ld 4 true (.t 8)),
  (o2 97 17 [.t 96,(ci 4)]),
  (mt 95 97),o1 98 (.ext 0 (.t 95)),o1 99 (.ext 1 (.t 95)),o1 11 (.al 25 [.sl0,.n .i64 0,.n .i64 0,.sl0]),
  (o3 (.st 4 (.t 11) (.t 98))),
  (mt 12 99)]
abbrev wx:List (Nat×AO):=
 [(2,(mt 100 12)),(2,(o1 101 (.bin .eql (.t 100) (ci 0)))),
  (2,(mt 102 101)),
  (2,(o5 103 102 (.fa 1 (.t 11)))),
  (1,(o5 104 102 (.ld 1 false (.t 103)))),
  (2,(o5 105 102 (.bin .eql (.t 104) (ci 4)))),(2,(o1 106 (.pick (.t 102) (.t 105) (.c (.b false))))),
  (2,(mt 107 106)),
  (2,(o5 108 107 (.fa 2 (.t 11)))),
  (1,(o5 109 107 (.ld 1 false (.t 108)))),
  (2,(o5 110 107 (.bin .eql (.t 109) (ci 4)))),(2,(o1 111 (.pick (.t 107) (.t 110) (.c (.b false))))),
  (2,(mt 112 111)),
  (2,(o5 113 112 (.fa 3 (.t 11)))),
  (1,(o5 114 112 (.ld 1 false (.t 113)))),
  (2,(o5 115 112 (.len (.t 114)))),
  (2,(o5 116 112 (.bin .eql (.t 115) (ci 18)))),(2,(o1 117 (.pick (.t 112) (.t 116) (.c (.b false))))),
  (2,(mt 118 117)),
  (2,(o5 119 118 (.fa 3 (.t 11)))),
  (1,(o5 120 118 (.ld 1 false (.t 119)))),
  (2,(o5 121 118 (.ia 5 (.t 120) (ci 0)))),
  (1,(o5 122 118 (.ld 5 true (.t 121)))),(0,⟨some 123,some (118,true),.cl (.c (.f 34 [] [])) [(ci 0)]⟩),
  (2,(o5 124 118 (.eq false (.st [(0,1,.n),(1,1,.n),(2,1,.n),(3,1,.n),(4,1,.n)]) (.t 122) (.t 123)))),(2,(o1 125 (.pick (.t 118) (.t 124) (.c (.b false))))),
  (2,(mt 0 125))]
abbrev Qa:AF:=⟨126,(.seq (.reg JQ) (.seq (.reg JP) (.seq (.reg JO) (.seq (.reg JN) (.seq (.reg JM) (.seq (.seq (.reg JL) (.cond (.t 71) (.seq (.reg JK) .ret) .skip)) (.seq (.reg Cm) (.seq (.seq (.reg Cl) (.block 0 wA)) (.seq (.seq (.reg ww) (.block 2 wy)) (.seq (.reg wv) (.seq (.mix wx) .ret))))))))))),[.mv (.t 0)]⟩
theorem JR:bJ Try.prog (aK Try.prog 10) 10=some Qa:=by kernel_rfl
/-! compactorlaw25.good-/
abbrev JH:List AO:=
 [o1 1 (.bx 25 0 (.t 0)),o1 2 (.mv (.c (.b false)))]
abbrev JG:List AO:=
 [o1 6 (.ld 4 true (.t 1)),
  (o2 7 39 [.t 6]),
  (mt 5 7),o1 8 (.ext 0 (.t 5)),o1 9 (.ext 1 (.t 5)),
  (mt 3 8),
  (mt 4 9)]
abbrev JF:List AO:=
 [o1 10 (.ld 4 true (.t 1)),
  (o2 11 9 [.t 10]),
  (mt 12 11),
  (o5 13 12 (.fa 2 (.t 1))),
  (o5 14 12 (.ld 1 false (.t 13))),
  (o5 15 12 (.bin .leq (.t 14) (ci 900))),o1 16 (.pick (.t 12) (.t 15) (.c (.b false))),
  (mt 17 16),
  (o5 18 17 (.mv (.t 4))),
  (o5 19 17 (.bin .eql (.t 18) (ci 0))),o1 20 (.pick (.t 17) (.t 19) (.c (.b false))),
  (mt 2 20)]
abbrev P9:AF:=⟨21,(.seq (.reg JH) (.seq (.reg JG) (.seq (.reg JF) .ret))),[.mv (.t 2)]⟩
theorem JI:bJ Try.prog (aK Try.prog 22) 22=some P9:=by kernel_rfl
/-! compactorlaw25.reached-/
/-! compactorlaw25.reached$1-/
/-! compactorlaw25.AllocateFits$1-/
/-! compactorlaw25.AllocateFits$2-/
/-! optimizer.Prune-/
/-! optimizer.prune-/
/-! optimizer.live-/
/-! optimizer.hollow-/
/-! slices.Clone[[]bool,bool]-/
/-! optimizer.following-/
/-! slices.Equal[[]bool,bool]-/
/-! compactorref24.Prune-/
/-! compactorref24.live-/
/-! compactorref24.idle-/
/-! compactorref24.empty-/
/-! compactorref24.successors-/
/-! compactorlaw24.OptimizerPrunes-/
/-! optimizer.Share-/
/-! optimizer.share-/
/-! optimizer.walk[optimizer.value]-/
/-! optimizer.share$1-/
/-! optimizer.share$2-/
/-! optimizer.expression-/
/-! slices.IndexFunc[[]optimizer.value,optimizer.value]-/
/-! optimizer.share$2$1-/
/-! optimizer.value.computes-/
/-! optimizer.without[optimizer.value]-/
/-! optimizer.both[optimizer.value]-/
/-! optimizer.without[optimizer.value]$1-/
/-! slices.Contains[[]optimizer.value,optimizer.value]-/
/-! slices.Index[[]optimizer.value,optimizer.value]-/
/-! compactorref24.Share-/
/-! compactorref24.keep-/
/-! compactorref24.changes-/
/-! compactorref24.bothFacts-/
/-! compactorref24.expression-/
/-! compactorref24.find-/
/-! compactorlaw24.OptimizerShares-/
/-! optimizer.Optimize-/
/-! compactorref24.Optimize-/
/-! optimizer.Optimize$1-/
/-! slices.Equal[[]api.RegInstr,api.RegInstr]-/
/-! compactorlaw24.OptimizerOptimizes-/
/-! slices.EqualFunc[[][]int,[][]int,[]int,[]int]-/
abbrev JC:List AO:=
 [o1 6 (.mv (.c (.b false)))]
abbrev JB:List AO:=
 [(mt 10 0),o1 11 (.len (.t 10)),
  (mt 12 1),o1 13 (.len (.t 12)),o1 14 (.bin .neq (.t 11) (.t 13))]
abbrev JA:List AO:=
 [o1 6 (.mv (.c (.b false)))]
abbrev Jz:List AO:=
 [(mt 15 0),o1 16 (.len (.t 15)),o1 17 (.mv (ci 0))]
abbrev Jy:List AO:=
 [o1 18 (.bin .lss (.t 17) (.t 16))]
abbrev Jx:List AO:=
 [(mt 19 17),o1 20 (.ia 1 (.t 15) (.t 17)),o1 21 (.ld 1 false (.t 20)),
  (mt 7 19),
  (mt 8 21)]
abbrev Jw:List AO:=
 [(mt 22 1),
  (mt 23 7),o1 24 (.ia 1 (.t 22) (.t 23)),o1 25 (.ld 1 false (.t 24)),
  (mt 9 25)]
abbrev Jv:List AO:=
 [(mt 26 2),
  (mt 27 8),
  (mt 28 9),⟨some 29,none,.cl (.t 26) [.t 27,.t 28]⟩,o1 30 (.un .not (.t 29))]
abbrev Ju:List AO:=
 [o1 6 (.mv (.c (.b false)))]
abbrev JE:AC:=
 (.seq (.reg Jx) (.seq (.reg Jw) (.seq (.reg Jv) (.cond (.t 30) (.seq (.reg Ju) .ret) .skip))))
abbrev CN:List AO:=
 [o1 31 (.bin .add (.t 17) (ci 1)),
  (mt 17 31)]
abbrev CP:AC:=
 (.seq (.reg Jy) (.seq (.cond (.t 18) .skip (.exit 0)) (.seq (.block 1 JE) (.reg CN))))
abbrev CO:AC:=
 (.loop CP)
abbrev CM:List AO:=
 [o1 6 (.mv (.c (.b true)))]
abbrev P8:AF:=⟨32,(.seq (.reg JC) (.seq (.seq (.reg JB) (.cond (.t 14) (.seq (.reg JA) .ret) .skip)) (.seq (.seq (.reg Jz) (.block 0 CO)) (.seq (.reg CM) .ret)))),[.mv (.t 6)]⟩
theorem JD:bJ Try.prog (aK Try.prog 15) 15=some P8:=by kernel_rfl
/-! slices.Equal[[]int,int]-/
abbrev Jq:List AO:=
 [o1 4 (.mv (.c (.b false)))]
abbrev Jp:List AO:=
 [(mt 6 0),o1 7 (.len (.t 6)),
  (mt 8 1),o1 9 (.len (.t 8)),o1 10 (.bin .neq (.t 7) (.t 9))]
abbrev Jo:List AO:=
 [o1 4 (.mv (.c (.b false)))]
abbrev Jn:List AO:=
 [(mt 11 0),o1 12 (.len (.t 11)),o1 13 (.mv (ci 0))]
abbrev Jm:List AO:=
 [o1 14 (.bin .lss (.t 13) (.t 12))]
abbrev Jl:List AO:=
 [(mt 15 13),
  (mt 5 15)]
abbrev Js:List (Nat×AO):=
 [(2,(mt 16 0)),
  (2,(mt 17 5)),(2,(o1 18 (.ia 1 (.t 16) (.t 17)))),
  (2,(mt 20 1)),
  (2,(mt 21 5)),(2,(o1 22 (.ia 1 (.t 20) (.t 21)))),(1,(o1 19 (.ld 1 false (.t 18)))),(1,(o1 23 (.ld 1 false (.t 22)))),(2,(o1 24 (.bin .neq (.t 19) (.t 23))))]
abbrev Jk:List AO:=
 [o1 4 (.mv (.c (.b false)))]
abbrev Jt:AC:=
 (.seq (.reg Jl) (.seq (.mix Js) (.cond (.t 24) (.seq (.reg Jk) .ret) .skip)))
abbrev Jj:List AO:=
 [o1 25 (.bin .add (.t 13) (ci 1)),
  (mt 13 25)]
abbrev CL:AC:=
 (.seq (.reg Jm) (.seq (.cond (.t 14) .skip (.exit 0)) (.seq (.block 1 Jt) (.reg Jj))))
abbrev CK:AC:=
 (.loop CL)
abbrev CJ:List AO:=
 [o1 4 (.mv (.c (.b true)))]
abbrev P2:AF:=⟨26,(.seq (.reg Jq) (.seq (.seq (.reg Jp) (.cond (.t 10) (.seq (.reg Jo) .ret) .skip)) (.seq (.seq (.reg Jn) (.block 0 CK)) (.seq (.reg CJ) .ret)))),[.mv (.t 4)]⟩
theorem Jr:bJ Try.prog (aK Try.prog 16) 16=some P2:=by kernel_rfl
/-! slices.IsSorted[[]int,int]-/
/-! slices.Contains[[]int,int]-/
/-! slices.EqualFunc[[]api.RegInstr,[]api.RegInstr,api.RegInstr,api.RegInstr]-/
/-! slices.Index[[]int,int]-/
/-! slices.ContainsFunc[[]int,int]-/
/-! slices.IndexFunc[[]int,int]-/
/-! cmp.Less[int]-/
/-! cmp.isNaN[int]-/
/-! compactorlaw25.AllocateLives-/
/-! compactorlaw25.AllocateSpills-/
/-! compactorlaw25.AllocateCompacts-/
/-! compactorlaw25.AllocateSettles-/
abbrev Ji:List AO:=
 [o1 2 (.bx 25 0 (.t 0)),o1 4 (.mv (.c (.b false)))]
abbrev Jh:List AO:=
 [o1 14 (.ld 4 true (.t 2)),
  (o2 15 22 [.t 14]),o1 16 (.un .not (.t 15))]
abbrev Jg:List AO:=
 [(o2 17 10 []),
  (mt 4 17)]
abbrev Jf:List AO:=
 [(mt 18 1),o1 19 (.cvi .i64 (.t 18)),o1 20 (.bin .rem (.t 19) (ci 20)),o1 21 (.bin .add (ci 4) (.t 20)),
  (mt 5 21)]
abbrev Je:List AO:=
 [o1 23 (.ld 4 true (.t 2)),
  (mt 24 5),
  (o2 25 17 [.t 23,.t 24]),
  (mt 22 25),o1 26 (.ext 0 (.t 22)),o1 27 (.ext 1 (.t 22)),o1 6 (.al 25 [.sl0,.n .i64 0,.n .i64 0,.sl0]),
  (o3 (.st 4 (.t 6) (.t 26))),
  (mt 7 27)]
abbrev Jd:List AO:=
 [o1 29 (.ld 4 true (.t 6)),
  (mt 30 5),
  (o2 31 17 [.t 29,.t 30]),
  (mt 28 31),o1 32 (.ext 0 (.t 28)),o1 33 (.ext 1 (.t 28)),o1 8 (.al 25 [.sl0,.n .i64 0,.n .i64 0,.sl0]),
  (o3 (.st 4 (.t 8) (.t 32))),
  (mt 9 33)]
abbrev Jc:List AO:=
 [o1 35 (.ld 4 true (.t 2)),
  (o2 36 20 [.t 35]),
  (mt 34 36),o1 37 (.ext 0 (.t 34)),o1 38 (.ext 1 (.t 34)),o1 10 (.al 25 [.sl0,.n .i64 0,.n .i64 0,.sl0]),
  (o3 (.st 4 (.t 10) (.t 37))),
  (mt 11 38)]
abbrev Jb:List AO:=
 [o1 40 (.ld 4 true (.t 10)),
  (o2 41 20 [.t 40]),
  (mt 39 41),o1 42 (.ext 0 (.t 39)),o1 43 (.ext 1 (.t 39)),o1 12 (.al 25 [.sl0,.n .i64 0,.n .i64 0,.sl0]),
  (o3 (.st 4 (.t 12) (.t 42))),
  (mt 13 43)]
abbrev Ja:List AO:=
 [(mt 44 7),
  (mt 45 9),o1 46 (.bin .add (.t 44) (.t 45)),
  (mt 47 11),o1 48 (.bin .add (.t 46) (.t 47)),
  (mt 49 13),o1 50 (.bin .add (.t 48) (.t 49)),o1 51 (.bin .eql (.t 50) (ci 0)),
  (mt 52 51),
  (o5 53 52 (.fa 2 (.t 8))),
  (o5 54 52 (.ld 1 false (.t 53))),
  (o5 55 52 (.fa 2 (.t 6))),
  (o5 56 52 (.ld 1 false (.t 55))),
  (o5 57 52 (.bin .eql (.t 54) (.t 56))),o1 58 (.pick (.t 52) (.t 57) (.c (.b false))),
  (mt 59 58),
  (o5 60 59 (.fa 1 (.t 8))),
  (o5 61 59 (.ld 1 false (.t 60))),
  (o5 62 59 (.mv (.t 5))),
  (o5 63 59 (.bin .leq (.t 61) (.t 62))),o1 64 (.pick (.t 59) (.t 63) (.c (.b false))),
  (mt 65 64),
  (o5 66 65 (.ld 4 true (.t 10))),
  (o5 67 65 (.ld 4 true (.t 12))),⟨some 68,some (65,true),.cl (.c (.f 19 [] [])) [.t 66,.t 67]⟩,o1 69 (.pick (.t 65) (.t 68) (.c (.b false))),
  (mt 70 69),⟨some 71,some (70,true),.cl (.c (.f 10 [] [])) []⟩,o1 72 (.pick (.t 70) (.t 71) (.c (.b false))),
  (mt 4 72)]
abbrev P1:AF:=⟨73,(.seq (.reg Ji) (.seq (.seq (.reg Jh) (.cond (.t 16) (.seq (.reg Jg) .ret) .skip)) (.seq (.reg Jf) (.seq (.reg Je) (.seq (.reg Jd) (.seq (.reg Jc) (.seq (.reg Jb) (.seq (.reg Ja) .ret)))))))),[.mv (.t 4)]⟩
theorem Ck:bJ Try.prog (aK Try.prog 6) 6=some P1:=by kernel_rfl
/-! compactorlaw25.AllocateNeeds-/
/-! compactorlaw25.AllocateFits-/
end Go.Proofs.Yteopfmnnhlhbmaa