/- A part of the proof of AllocateCompacts: AcA AcB AcAlA AcAlI AcAlD AcAlE AcAlG AcAlF AcD AcC AcE AcAlH AcAlJ. No condition. -/
import Derived.Test.YteopfmnnhlhbmaaHc12
import Derived.Test.YteopfmnnhlhbmaaProg
set_option linter.unusedSimpArgs false
set_option linter.unusedVariables false
set_option linter.constructorNameAsVariable false
set_option maxRecDepth 100000
set_option maxHeartbeats 4000000
namespace Go.Proofs.Yteopfmnnhlhbmaa
open Go.RowKit
/-! optimizer.numbers-/
/-! lower.Uses-/
abbrev RS:List AO:=
 [o1 1 (.bx 60 0 (.t 0)),o1 2 (.mv (.c .sl0)),o1 3 (.mv (ci 0))]
abbrev RR:List AO:=
 [o1 6 (.fa 0 (.t 1)),o1 7 (.ld 1 false (.t 6)),
  (o2 8 88 [.t 7]),o1 4 (.al 104 [.b false,.b false,.b false,.b false]),
  (o3 (.st 4 (.t 4) (.t 8)))]
abbrev RQ:List AO:=
 [o1 5 (.mv (.c .sl0))]
abbrev RP:List AO:=
 [o1 9 (.fa 2 (.t 4)),o1 10 (.ld 1 false (.t 9))]
abbrev RO:List AO:=
 [(mt 11 5),o1 12 (.fa 2 (.t 1)),o1 13 (.ld 1 false (.t 12)),o1 14 (.bs 3 1 1 [.n .i64 0] [(0,1,(.t 13))]),o1 15 (.app 3 1 8 (.t 11) (.t 14)),
  (mt 5 15)]
abbrev RN:List AO:=
 [o1 16 (.fa 3 (.t 4)),o1 17 (.ld 1 false (.t 16))]
abbrev RM:List AO:=
 [(mt 18 5),o1 19 (.fa 3 (.t 1)),o1 20 (.ld 1 false (.t 19)),o1 21 (.bs 3 1 1 [.n .i64 0] [(0,1,(.t 20))]),o1 22 (.app 3 1 8 (.t 18) (.t 21)),
  (mt 5 22)]
abbrev RL:List AO:=
 [o1 23 (.fa 1 (.t 4)),o1 24 (.ld 1 false (.t 23)),o1 25 (.un .not (.t 24))]
abbrev RK:List AO:=
 [(mt 26 5),
  (mt 2 26),o1 3 (.mv (.c (.n .i64 (-1))))]
abbrev RV:List (Nat×AO):=
 [(2,(mt 27 5)),(2,(o1 28 (.fa 1 (.t 1)))),
  (2,(mt 2 27)),(1,(o1 29 (.ld 1 false (.t 28)))),
  (2,(mt 3 29))]
abbrev x1F:AF:=⟨30,(.seq (.reg RS) (.seq (.reg RR) (.seq (.reg RQ) (.seq (.seq (.reg RP) (.cond (.t 10) (.reg RO) .skip)) (.seq (.seq (.reg RN) (.cond (.t 17) (.reg RM) .skip)) (.seq (.seq (.reg RL) (.cond (.t 25) (.seq (.reg RK) .ret) .skip)) (.seq (.mix RV) .ret))))))),[.mv (.t 2),.mv (.t 3)]⟩
theorem RU:bE Try.prog (aE Try.prog 68) 68=some x1F:=by kernel_rfl
/-! lower.shape-/
/-! optimizer.written-/
/-! optimizer.source-/
/-! slices.Index[[]optimizer.known,optimizer.known]-/
/-! slices.Contains[[]optimizer.known,optimizer.known]-/
/-! slices.IndexFunc[[]optimizer.known,optimizer.known]-/
/-! optimizer.numbers$1-/
/-! optimizer.both[optimizer.known]-/
/-! optimizer.without[optimizer.known]-/
/-! optimizer.without[optimizer.known]$1-/
/-! slices.ContainsFunc[[]api.RegInstr,api.RegInstr]-/
/-! slices.IndexFunc[[]api.RegInstr,api.RegInstr]-/
/-! optimizer.arithmetic-/
/-! optimizer.folded-/
/-! optimizer.fold$1-/
/-! optimizer.fold$2-/
/-! optimizer.pairs-/
/-! optimizer.walk[optimizer.known]-/
/-! optimizer.fold-/
/-! optimizer.checked-/
/-! optimizer.copied-/
/-! optimizer.Fold-/
/-! compactorref24.writes-/
/-! compactorref24.copyKnown-/
/-! compactorref24.forget-/
/-! compactorref24.bothKnown-/
/-! compactorref24.folded-/
/-! compactorref24.Fold-/
/-! compactorref23.Uses-/
abbrev Rv:List AO:=
 [o1 1 (.bx 60 0 (.t 0)),o1 2 (.mv (.c .sl0)),o1 3 (.mv (ci 0))]
abbrev Ru:List AO:=
 [o1 10 (.fa 0 (.t 1)),o1 11 (.ld 1 false (.t 10)),
  (o2 12 82 [.t 11]),
  (mt 9 12),o1 13 (.ext 0 (.t 9)),o1 14 (.ext 1 (.t 9)),o1 15 (.ext 2 (.t 9)),o1 16 (.ext 3 (.t 9)),
  (mt 4 13),
  (mt 5 14),
  (mt 6 15),
  (mt 7 16)]
abbrev Rt:List AO:=
 [o1 8 (.mv (.c .sl0))]
abbrev Rs:List AO:=
 [(mt 17 5)]
abbrev Rr:List AO:=
 [(mt 18 8),o1 19 (.fa 2 (.t 1)),o1 20 (.ld 1 false (.t 19)),o1 21 (.bs 3 1 1 [.n .i64 0] [(0,1,(.t 20))]),o1 22 (.app 3 1 8 (.t 18) (.t 21)),
  (mt 8 22)]
abbrev Rq:List AO:=
 [(mt 23 6)]
abbrev Rp:List AO:=
 [(mt 24 8),o1 25 (.fa 3 (.t 1)),o1 26 (.ld 1 false (.t 25)),o1 27 (.bs 3 1 1 [.n .i64 0] [(0,1,(.t 26))]),o1 28 (.app 3 1 8 (.t 24) (.t 27)),
  (mt 8 28)]
abbrev Ro:List AO:=
 [(mt 29 4)]
abbrev Ry:List (Nat×AO):=
 [(2,(mt 30 8)),(2,(o1 31 (.fa 1 (.t 1)))),
  (2,(mt 2 30)),(1,(o1 32 (.ld 1 false (.t 31)))),
  (2,(mt 3 32))]
abbrev Rn:List AO:=
 [(mt 33 8),
  (mt 2 33),o1 3 (.mv (.c (.n .i64 (-1))))]
abbrev x2F:AF:=⟨34,(.seq (.reg Rv) (.seq (.reg Ru) (.seq (.reg Rt) (.seq (.seq (.reg Rs) (.cond (.t 17) (.reg Rr) .skip)) (.seq (.seq (.reg Rq) (.cond (.t 23) (.reg Rp) .skip)) (.seq (.seq (.reg Ro) (.cond (.t 29) (.seq (.mix Ry) .ret) .skip)) (.seq (.reg Rn) .ret))))))),[.mv (.t 2),.mv (.t 3)]⟩
theorem Rx:bE Try.prog (aE Try.prog 57) 57=some x2F:=by kernel_rfl
/-! compactorref23.Parts-/
/-! slices.Clone[[]api.Array,api.Array]-/
abbrev Rb:List AO:=
 [o1 2 (.mv (.c .sl0))]
abbrev Ra:List AO:=
 [(mt 3 0),⟨some 4,none,.sn false (.t 3)⟩]
abbrev Q9:List AO:=
 [o1 2 (.mv (.c .sl0))]
abbrev Q8:List AO:=
 [o1 5 (.bs 102 2 0 [] []),
  (mt 6 0),o1 7 (.app 102 2 16 (.t 5) (.t 6)),
  (mt 2 7)]
abbrev x3F:AF:=⟨8,(.seq (.reg Rb) (.seq (.seq (.reg Ra) (.cond (.t 4) (.seq (.reg Q9) .ret) .skip)) (.seq (.reg Q8) .ret))),[.mv (.t 2)]⟩
theorem Rc:bE Try.prog (aE Try.prog 75) 75=some x3F:=by kernel_rfl
/-! slices.Clone[[]api.RegInstr,api.RegInstr]-/
abbrev QW:List AO:=
 [o1 2 (.mv (.c .sl0))]
abbrev QV:List AO:=
 [(mt 3 0),⟨some 4,none,.sn false (.t 3)⟩]
abbrev QU:List AO:=
 [o1 2 (.mv (.c .sl0))]
abbrev QT:List AO:=
 [o1 5 (.bs 60 5 0 [] []),
  (mt 6 0),o1 7 (.app 60 5 40 (.t 5) (.t 6)),
  (mt 2 7)]
abbrev x4F:AF:=⟨8,(.seq (.reg QW) (.seq (.seq (.reg QV) (.cond (.t 4) (.seq (.reg QU) .ret) .skip)) (.seq (.reg QT) .ret))),[.mv (.t 2)]⟩
theorem QX:bE Try.prog (aE Try.prog 29) 29=some x4F:=by kernel_rfl
/-! compactorref23.Same-/
abbrev QP:List AO:=
 [o1 2 (.bx 25 0 (.t 0)),o1 3 (.bx 25 0 (.t 1)),o1 4 (.mv (.c (.b false)))]
abbrev QO:List AO:=
 [o1 6 (.fa 1 (.t 2)),o1 7 (.ld 1 false (.t 6)),o1 8 (.fa 1 (.t 3)),o1 9 (.ld 1 false (.t 8)),o1 10 (.bin .neq (.t 7) (.t 9)),
  (mt 11 10),
  (o4 12 11 (.fa 2 (.t 2))),
  (o4 13 11 (.ld 1 false (.t 12))),
  (o4 14 11 (.fa 2 (.t 3))),
  (o4 15 11 (.ld 1 false (.t 14))),
  (o4 16 11 (.bin .neq (.t 13) (.t 15))),o1 17 (.pick (.t 11) (.c (.b true)) (.t 16)),
  (mt 18 17),
  (o4 19 18 (.fa 0 (.t 2))),
  (o4 20 18 (.ld 1 false (.t 19))),
  (o4 21 18 (.fa 0 (.t 3))),
  (o4 22 18 (.ld 1 false (.t 21))),⟨some 23,some (18,false),.cl (.c (.f 51 [] [])) [.t 20,.t 22]⟩,
  (o4 24 18 (.un .not (.t 23))),o1 25 (.pick (.t 18) (.c (.b true)) (.t 24)),
  (mt 26 25),
  (o4 27 26 (.fa 3 (.t 2))),
  (o4 28 26 (.ld 1 false (.t 27))),
  (o4 29 26 (.len (.t 28))),
  (o4 30 26 (.fa 3 (.t 3))),
  (o4 31 26 (.ld 1 false (.t 30))),
  (o4 32 26 (.len (.t 31))),
  (o4 33 26 (.bin .neq (.t 29) (.t 32))),o1 34 (.pick (.t 26) (.c (.b true)) (.t 33))]
abbrev QN:List AO:=
 [o1 4 (.mv (.c (.b false)))]
abbrev QM:List AO:=
 [o1 5 (.mv (ci 0))]
abbrev QL:List AO:=
 [(mt 35 5),o1 36 (.fa 3 (.t 2)),o1 37 (.ld 1 false (.t 36)),o1 38 (.len (.t 37)),o1 39 (.bin .lss (.t 35) (.t 38))]
abbrev QQ:List (Nat×AO):=
 [(2,(o1 42 (.fa 3 (.t 2)))),
  (2,(mt 44 5)),(2,(o1 47 (.fa 3 (.t 3)))),
  (2,(mt 49 5)),(1,(o1 43 (.ld 1 false (.t 42)))),(2,(o1 45 (.ia 5 (.t 43) (.t 44)))),(1,(o1 46 (.ld 5 true (.t 45)))),(1,(o1 48 (.ld 1 false (.t 47)))),(2,(o1 50 (.ia 5 (.t 48) (.t 49)))),(1,(o1 51 (.ld 5 true (.t 50)))),(2,(o1 52 (.eq true (.st [(0,1,.n),(1,1,.n),(2,1,.n),(3,1,.n),(4,1,.n)]) (.t 46) (.t 51))))]
abbrev QK:List AO:=
 [o1 4 (.mv (.c (.b false)))]
abbrev QR:AC:=
 (.seq (.mix QQ) (.cond (.t 52) (.seq (.reg QK) .ret) .skip))
abbrev QJ:List AO:=
 [(mt 40 5),o1 41 (.bin .add (.t 40) (ci 1)),
  (mt 5 41)]
abbrev QS:AC:=
 (.seq (.seq (.reg QL) (.cond (.t 39) .skip (.exit 0))) (.seq (.block 1 QR) (.reg QJ)))
abbrev Je:AC:=
 (.loop QS)
abbrev Jc:List AO:=
 [o1 4 (.mv (.c (.b true)))]
abbrev x5F:AF:=⟨53,(.seq (.reg QP) (.seq (.seq (.reg QO) (.cond (.t 34) (.seq (.reg QN) .ret) .skip)) (.seq (.seq (.reg QM) (.block 0 Je)) (.seq (.reg Jc) .ret)))),[.mv (.t 4)]⟩
theorem Jd:bE Try.prog (aE Try.prog 19) 19=some x5F:=by kernel_rfl
/-! compactorref15.SameArrays-/
abbrev QE:List AO:=
 [o1 4 (.mv (.c (.b false)))]
abbrev QD:List AO:=
 [(mt 6 0),o1 7 (.len (.t 6)),
  (mt 8 1),o1 9 (.len (.t 8)),o1 10 (.bin .neq (.t 7) (.t 9))]
abbrev QC:List AO:=
 [o1 4 (.mv (.c (.b false)))]
abbrev QB:List AO:=
 [o1 5 (.mv (ci 0))]
abbrev QA:List AO:=
 [(mt 11 5),
  (mt 12 0),o1 13 (.len (.t 12)),o1 14 (.bin .lss (.t 11) (.t 13))]
abbrev QG:List (Nat×AO):=
 [(2,(mt 17 0)),
  (2,(mt 18 5)),(2,(o1 19 (.ia 2 (.t 17) (.t 18)))),
  (2,(mt 21 1)),
  (2,(mt 22 5)),(2,(o1 23 (.ia 2 (.t 21) (.t 22)))),(1,(o1 20 (.ld 2 true (.t 19)))),(1,(o1 24 (.ld 2 true (.t 23)))),(2,(o1 25 (.eq true (.st [(0,1,.b),(1,1,.n)]) (.t 20) (.t 24))))]
abbrev Qz:List AO:=
 [o1 4 (.mv (.c (.b false)))]
abbrev QH:AC:=
 (.seq (.mix QG) (.cond (.t 25) (.seq (.reg Qz) .ret) .skip))
abbrev Qy:List AO:=
 [(mt 15 5),o1 16 (.bin .add (.t 15) (ci 1)),
  (mt 5 16)]
abbrev QI:AC:=
 (.seq (.seq (.reg QA) (.cond (.t 14) .skip (.exit 0))) (.seq (.block 1 QH) (.reg Qy)))
abbrev Jb:AC:=
 (.loop QI)
abbrev Ja:List AO:=
 [o1 4 (.mv (.c (.b true)))]
abbrev x6F:AF:=⟨26,(.seq (.reg QE) (.seq (.seq (.reg QD) (.cond (.t 10) (.seq (.reg QC) .ret) .skip)) (.seq (.seq (.reg QB) (.block 0 Jb)) (.seq (.reg Ja) .ret)))),[.mv (.t 4)]⟩
theorem QF:bE Try.prog (aE Try.prog 51) 51=some x6F:=by kernel_rfl
/-! compactorref24.Few-/
/-! compactorref23.Few-/
abbrev Qw:List AO:=
 [o1 1 (.bx 25 0 (.t 0)),o1 2 (.mv (.c (.b false)))]
abbrev Qv:List AO:=
 [o1 3 (.fa 0 (.t 1)),o1 4 (.ld 1 false (.t 3)),o1 5 (.len (.t 4)),o1 6 (.bin .leq (.t 5) (ci 20)),
  (mt 7 6),
  (o5 8 7 (.fa 3 (.t 1))),
  (o5 9 7 (.ld 1 false (.t 8))),
  (o5 10 7 (.len (.t 9))),
  (o5 11 7 (.bin .leq (.t 10) (ci 300))),o1 12 (.pick (.t 7) (.t 11) (.c (.b false))),
  (mt 2 12)]
abbrev x7F:AF:=⟨13,(.seq (.reg Qw) (.seq (.reg Qv) .ret)),[.mv (.t 2)]⟩
theorem Qx:bE Try.prog (aE Try.prog 33) 33=some x7F:=by kernel_rfl
/-! compactorlaw24.OptimizerFolds-/
/-! lower.shapes-/
/-! optimizer.Copies-/
/-! optimizer.copies-/
/-! optimizer.walk[optimizer.same]-/
/-! optimizer.copies$1-/
/-! optimizer.copies$2-/
/-! optimizer.without[optimizer.same]-/
/-! optimizer.both[optimizer.same]-/
/-! optimizer.without[optimizer.same]$1-/
/-! slices.Contains[[]optimizer.same,optimizer.same]-/
/-! slices.Index[[]optimizer.same,optimizer.same]-/
/-! compactorref24.Copies-/
/-! compactorref24.source-/
/-! compactorref24.withoutSources-/
/-! compactorref24.bothSources-/
/-! compactorref24.only-/
/-! compactorref23.Copy-/
abbrev Qt:List AO:=
 [o1 1 (.bx 25 0 (.t 0)),o1 2 (.al 25 [.sl0,.n .i64 0,.n .i64 0,.sl0])]
abbrev Qs:List AO:=
 [o1 3 (.bs 102 2 0 [] []),o1 4 (.fa 0 (.t 1)),o1 5 (.ld 1 false (.t 4)),o1 6 (.app 102 2 16 (.t 3) (.t 5)),o1 7 (.fa 0 (.t 1)),
  (o3 (.st 1 (.t 7) (.t 6)))]
abbrev Qr:List AO:=
 [o1 8 (.bs 60 5 0 [] []),o1 9 (.fa 3 (.t 1)),o1 10 (.ld 1 false (.t 9)),o1 11 (.app 60 5 40 (.t 8) (.t 10)),o1 12 (.fa 3 (.t 1)),
  (o3 (.st 1 (.t 12) (.t 11)))]
abbrev Qq:List AO:=
 [o1 13 (.ld 4 true (.t 1)),
  (o3 (.st 4 (.t 2) (.t 13)))]
abbrev x8F:AF:=⟨14,(.seq (.reg Qt) (.seq (.reg Qs) (.seq (.reg Qr) (.seq (.reg Qq) .ret)))),[.ld 4 true (.t 2)]⟩
theorem Qu:bE Try.prog (aE Try.prog 49) 49=some x8F:=by kernel_rfl
/-! compactorlaw24.OptimizerCopies-/
/-! allocate.blocks-/
abbrev Qo:List AO:=
 [o1 2 (.mv (.c (.cv (.map none))))]
abbrev Qn:List AO:=
 [⟨some 14,none,.mo (.mm)⟩,
  (mt 3 14)]
abbrev Qm:List AO:=
 [o1 4 (.mv (.c .sl0)),o1 5 (.mv (.c .sl0))]
abbrev Ql:List AO:=
 [o1 6 (.mv (.c .sl0))]
abbrev Qk:List AO:=
 [(mt 15 0),o1 16 (.len (.t 15)),o1 17 (.mv (ci 0))]
abbrev Qj:List AO:=
 [o1 18 (.bin .lss (.t 17) (.t 16))]
abbrev Qi:List AO:=
 [(mt 19 17),o1 20 (.ia 5 (.t 15) (.t 17)),o1 21 (.ld 5 true (.t 20)),o1 8 (.al 60 [.n .i64 0,.n .i64 0,.n .i64 0,.n .i64 0,.n .u32 0]),
  (mt 7 19),
  (o3 (.st 5 (.t 8) (.t 21)))]
abbrev Qh:List AO:=
 [o1 22 (.fa 0 (.t 8)),o1 23 (.ld 1 false (.t 22))]
abbrev Qg:List AO:=
 [o1 25 (.bin .eql (.t 23) (ci 27)),
  (mt 24 25)]
abbrev Qf:List AO:=
 [o1 26 (.bin .eql (.t 23) (ci 29)),
  (mt 24 26)]
abbrev I1:List AO:=
 [(mt 27 4),
  (mt 28 7),o1 29 (.bs 3 1 1 [.n .i64 0] [(0,1,(.t 28))]),o1 30 (.app 3 1 8 (.t 27) (.t 29)),
  (mt 31 5),
  (mt 32 7),o1 33 (.bs 3 1 1 [.n .i64 0] [(0,1,(.t 32))]),o1 34 (.app 3 1 8 (.t 31) (.t 33)),
  (mt 35 6),o1 36 (.bs 39 1 1 [.sl0] [(0,1,(.c .sl0))]),o1 37 (.app 39 1 24 (.t 35) (.t 36)),
  (mt 4 30),
  (mt 5 34),
  (mt 6 37)]
abbrev I0:List AO:=
 [o1 39 (.bin .eql (.t 23) (ci 28)),
  (mt 38 39)]
abbrev IZ:List AO:=
 [(mt 40 4),o1 41 (.len (.t 40)),o1 42 (.bin .sub (.t 41) (ci 1)),
  (mt 9 42)]
abbrev IY:List AO:=
 [(mt 43 3),
  (mt 44 4),
  (mt 45 9),o1 46 (.ia 1 (.t 44) (.t 45)),o1 47 (.ld 1 false (.t 46)),
  (mt 48 5),
  (mt 49 9),
  (mt 50 7),
  (mt 51 7),⟨some 52,none,.mo (.me (.n .i64 0) (.t 43) (.t 47))⟩,o1 53 (.ext 1 (.t 52)),⟨none,none,.mo (.es (.t 43) (.t 53) (.t 50))⟩,o1 54 (.ia 1 (.t 48) (.t 49)),
  (o3 (.st 1 (.t 54) (.t 51)))]
abbrev IX:List AO:=
 [o1 56 (.bin .eql (.t 23) (ci 30)),
  (mt 55 56)]
abbrev B3:List AO:=
 [(mt 57 4),o1 58 (.len (.t 57)),o1 59 (.bin .sub (.t 58) (ci 1)),
  (mt 10 59)]
abbrev IW:List AO:=
 [(mt 60 0),
  (mt 61 4),
  (mt 62 10),o1 63 (.ia 1 (.t 61) (.t 62)),o1 64 (.ld 1 false (.t 63)),o1 65 (.ia 5 (.t 60) (.t 64)),o1 66 (.fa 0 (.t 65)),o1 67 (.ld 1 false (.t 66)),o1 68 (.bin .neq (.t 67) (ci 29))]
abbrev IV:List AO:=
 [(mt 69 10),o1 70 (.bin .sub (.t 69) (ci 1)),
  (mt 10 70)]
abbrev I6:AC:=
 (.reg IV)
abbrev I9:AC:=
 (.seq (.seq (.reg IW) (.cond (.t 68) .skip (.exit 3))) (.block 4 I6))
abbrev B7:AC:=
 (.loop I9)
abbrev B2:List AO:=
 [(mt 71 6),
  (mt 72 10),
  (mt 73 6),
  (mt 74 10),o1 75 (.ia 1 (.t 73) (.t 74)),o1 76 (.ld 1 false (.t 75)),
  (mt 77 7),o1 78 (.bs 3 1 1 [.n .i64 0] [(0,1,(.t 77))]),o1 79 (.app 3 1 8 (.t 76) (.t 78)),o1 80 (.ia 1 (.t 71) (.t 72)),
  (o3 (.st 1 (.t 80) (.t 79)))]
abbrev IU:List AO:=
 [o1 82 (.bin .eql (.t 23) (ci 31)),
  (mt 81 82)]
abbrev B1:List AO:=
 [(mt 83 4),o1 84 (.len (.t 83)),o1 85 (.bin .sub (.t 84) (ci 1)),
  (mt 11 85)]
abbrev B5:List (Nat×AO):=
 [(2,(mt 86 3)),
  (2,(mt 87 5)),
  (2,(mt 88 11)),(2,(o1 89 (.ia 1 (.t 87) (.t 88)))),
  (2,(mt 91 3)),
  (2,(mt 92 7)),
  (2,(mt 93 7)),
  (2,(mt 94 4)),
  (2,(mt 95 11)),(2,(o1 96 (.ia 1 (.t 94) (.t 95)))),(1,(o1 90 (.ld 1 false (.t 89)))),(1,(o1 97 (.ld 1 false (.t 96)))),(3,⟨some 98,none,.mo (.me (.n .i64 0) (.t 86) (.t 90))⟩),(2,(o1 99 (.ext 1 (.t 98)))),(3,⟨none,none,.mo (.es (.t 86) (.t 99) (.t 93))⟩),(3,⟨some 100,none,.mo (.me (.n .i64 0) (.t 91) (.t 92))⟩),(2,(o1 101 (.ext 1 (.t 100)))),(3,⟨none,none,.mo (.es (.t 91) (.t 101) (.t 97))⟩)]
abbrev BZ:List AO:=
 [(mt 102 6),
  (mt 103 11),o1 104 (.ia 1 (.t 102) (.t 103)),o1 105 (.ld 1 false (.t 104)),o1 106 (.len (.t 105)),o1 107 (.mv (ci 0))]
abbrev IR:List AO:=
 [o1 108 (.bin .lss (.t 107) (.t 106))]
abbrev IQ:List AO:=
 [o1 109 (.ia 1 (.t 105) (.t 107)),o1 110 (.ld 1 false (.t 109)),
  (mt 13 110)]
abbrev IP:List AO:=
 [(mt 111 3),
  (mt 112 13),
  (mt 113 7),⟨none,none,.mo (.mu (.t 111) (.t 112) (.t 113))⟩]
abbrev I5:AC:=
 (.seq (.reg IQ) (.reg IP))
abbrev IM:List AO:=
 [o1 114 (.bin .add (.t 107) (ci 1)),
  (mt 107 114)]
abbrev I8:AC:=
 (.seq (.reg IR) (.seq (.cond (.t 108) .skip (.exit 5)) (.seq (.block 6 I5) (.reg IM))))
abbrev B6:AC:=
 (.loop I8)
abbrev B4:List (Nat×AO):=
 [(2,(mt 115 4)),
  (2,(mt 116 11)),(2,(o1 117 (.sl 1 (.t 115) none (some (.t 116))))),
  (2,(mt 118 5)),
  (2,(mt 119 11)),(2,(o1 120 (.sl 1 (.t 118) none (some (.t 119))))),
  (2,(mt 121 6)),
  (2,(mt 122 11)),(2,(o1 123 (.sl 1 (.t 121) none (some (.t 122))))),
  (2,(mt 4 117)),
  (2,(mt 5 120)),
  (2,(mt 6 123))]
abbrev I4:AC:=
 (.seq (.seq (.reg Qg) (.cond (.t 24) .skip (.reg Qf))) (.cond (.t 24) (.reg I1) (.seq (.reg I0) (.cond (.t 38) (.seq (.reg IZ) (.reg IY)) (.seq (.reg IX) (.cond (.t 55) (.seq (.reg B3) (.seq (.block 3 B7) (.reg B2))) (.seq (.reg IU) (.cond (.t 81) (.seq (.reg B1) (.seq (.mix B5) (.seq (.seq (.reg BZ) (.block 5 B6)) (.mix B4)))) .skip))))))))
abbrev I3:AC:=
 (.seq (.reg Qi) (.seq (.reg Qh) (.block 2 I4)))
abbrev IL:List AO:=
 [o1 124 (.bin .add (.t 17) (ci 1)),
  (mt 17 124)]
abbrev I7:AC:=
 (.seq (.reg Qj) (.seq (.cond (.t 18) .skip (.exit 0)) (.seq (.block 1 I3) (.reg IL))))
abbrev I2:AC:=
 (.loop I7)
abbrev IK:List AO:=
 [(mt 125 3),
  (mt 2 125)]
abbrev x9F:AF:=⟨126,(.seq (.reg Qo) (.seq (.reg Qn) (.seq (.reg Qm) (.seq (.reg Ql) (.seq (.seq (.reg Qk) (.block 0 I2)) (.seq (.reg IK) .ret)))))),[.mv (.t 2)]⟩
theorem Qp:bE Try.prog (aE Try.prog 86) 86=some x9F:=by kernel_rfl
/-! allocate.graph-/
abbrev O2:List AO:=
 [o1 2 (.mv (.c .sl0))]
abbrev O1:List AO:=
 [(mt 9 0),
  (o2 10 86 [.t 9]),
  (mt 3 10)]
abbrev O0:List AO:=
 [o1 4 (.mv (.c .sl0))]
abbrev OZ:List AO:=
 [(mt 11 0),o1 12 (.len (.t 11)),o1 13 (.mv (ci 0))]
abbrev OY:List AO:=
 [o1 14 (.bin .lss (.t 13) (.t 12))]
abbrev OX:List AO:=
 [(mt 15 13),o1 16 (.ia 5 (.t 11) (.t 13)),o1 17 (.ld 5 true (.t 16)),o1 6 (.al 60 [.n .i64 0,.n .i64 0,.n .i64 0,.n .i64 0,.n .u32 0]),
  (mt 5 15),
  (o3 (.st 5 (.t 6) (.t 17)))]
abbrev OW:List AO:=
 [(mt 18 5),o1 19 (.bin .add (.t 18) (ci 1)),o1 20 (.bs 3 1 1 [.n .i64 0] [(0,1,(.t 19))]),
  (mt 7 20)]
abbrev OV:List AO:=
 [o1 21 (.fa 0 (.t 6)),o1 22 (.ld 1 false (.t 21))]
abbrev OU:List AO:=
 [o1 24 (.bin .eql (.t 22) (ci 27)),
  (mt 23 24)]
abbrev OT:List AO:=
 [o1 25 (.bin .eql (.t 22) (ci 29)),
  (mt 23 25)]
abbrev GB:List AO:=
 [o1 26 (.bin .eql (.t 22) (ci 30)),
  (mt 23 26)]
abbrev Gz:List AO:=
 [(mt 27 7),
  (mt 28 3),
  (mt 29 5),⟨some 30,none,.mo (.lk (.n .i64 0) false (.t 28) (.t 29))⟩,o1 31 (.bin .add (.t 30) (ci 1)),o1 32 (.bs 3 1 1 [.n .i64 0] [(0,1,(.t 31))]),o1 33 (.app 3 1 8 (.t 27) (.t 32)),
  (mt 7 33)]
abbrev Gy:List AO:=
 [o1 34 (.fa 0 (.t 6)),o1 35 (.ld 1 false (.t 34)),o1 36 (.bin .eql (.t 35) (ci 27)),
  (mt 37 36),
  (o5 38 37 (.mv (.t 0))),
  (o5 39 37 (.mv (.t 3))),
  (o5 40 37 (.mv (.t 5))),⟨some 41,some (37,true),.mo (.lk (.n .i64 0) false (.t 39) (.t 40))⟩,
  (o5 42 37 (.ia 5 (.t 38) (.t 41))),
  (o5 43 37 (.fa 0 (.t 42))),
  (o5 44 37 (.ld 1 false (.t 43))),
  (o5 45 37 (.bin .eql (.t 44) (ci 31))),o1 46 (.pick (.t 37) (.t 45) (.c (.b false)))]
abbrev Gx:List AO:=
 [(mt 47 7),
  (mt 48 3),
  (mt 49 5),⟨some 50,none,.mo (.lk (.n .i64 0) false (.t 48) (.t 49))⟩,o1 51 (.ia 1 (.t 47) (ci 1)),
  (o3 (.st 1 (.t 51) (.t 50)))]
abbrev Gw:List AO:=
 [o1 53 (.bin .eql (.t 22) (ci 28)),
  (mt 52 53)]
abbrev Gv:List AO:=
 [(mt 54 7),
  (mt 55 3),
  (mt 56 5),⟨some 57,none,.mo (.lk (.n .i64 0) false (.t 55) (.t 56))⟩,o1 58 (.bin .add (.t 57) (ci 1)),o1 59 (.ia 1 (.t 54) (ci 0)),
  (o3 (.st 1 (.t 59) (.t 58)))]
abbrev Gu:List AO:=
 [o1 61 (.bin .eql (.t 22) (ci 31)),
  (mt 60 61)]
abbrev Gs:List AO:=
 [(mt 62 3),
  (mt 63 5),⟨some 64,none,.mo (.lk (.n .i64 0) false (.t 62) (.t 63))⟩,
  (mt 8 64)]
abbrev Gr:List AO:=
 [(mt 65 0),
  (mt 66 8),o1 67 (.ia 5 (.t 65) (.t 66)),o1 68 (.fa 0 (.t 67)),o1 69 (.ld 1 false (.t 68)),o1 70 (.bin .eql (.t 69) (ci 29))]
abbrev Gq:List AO:=
 [(mt 71 7),
  (mt 72 8),o1 73 (.bin .add (.t 72) (ci 1)),o1 74 (.bs 3 1 1 [.n .i64 0] [(0,1,(.t 73))]),o1 75 (.app 3 1 8 (.t 71) (.t 74)),
  (mt 7 75)]
abbrev GF:AC:=
 (.seq (.seq (.reg OU) (.cond (.t 23) .skip (.seq (.reg OT) (.cond (.t 23) .skip (.reg GB))))) (.cond (.t 23) (.seq (.reg Gz) (.seq (.reg Gy) (.cond (.t 46) (.reg Gx) .skip))) (.seq (.reg Gw) (.cond (.t 52) (.reg Gv) (.seq (.reg Gu) (.cond (.t 60) (.seq (.reg Gs) (.seq (.reg Gr) (.cond (.t 70) (.reg Gq) .skip))) .skip))))))
abbrev Gp:List AO:=
 [(mt 76 4),
  (mt 77 7),o1 78 (.bs 39 1 1 [.sl0] [(0,1,(.t 77))]),o1 79 (.app 39 1 24 (.t 76) (.t 78)),
  (mt 4 79)]
abbrev GD:AC:=
 (.seq (.reg OX) (.seq (.reg OW) (.seq (.seq (.reg OV) (.block 2 GF)) (.reg Gp))))
abbrev Gn:List AO:=
 [o1 80 (.bin .add (.t 13) (ci 1)),
  (mt 13 80)]
abbrev GG:AC:=
 (.seq (.reg OY) (.seq (.cond (.t 14) .skip (.exit 0)) (.seq (.block 1 GD) (.reg Gn))))
abbrev GC:AC:=
 (.loop GG)
abbrev Gm:List AO:=
 [(mt 81 4),
  (mt 2 81)]
abbrev R6:AF:=⟨82,(.seq (.reg O2) (.seq (.reg O1) (.seq (.reg O0) (.seq (.seq (.reg OZ) (.block 0 GC)) (.seq (.reg Gm) .ret))))),[.mv (.t 2)]⟩
theorem O3:bE Try.prog (aE Try.prog 66) 66=some R6:=by kernel_rfl
/-! allocate.occurring-/
abbrev OQ:List AO:=
 [o1 2 (.mv (.c .sl0))]
abbrev OP:List AO:=
 [⟨some 10,none,.mo (.mm)⟩,
  (mt 3 10)]
abbrev OO:List AO:=
 [(mt 11 0),o1 12 (.len (.t 11)),o1 13 (.mv (ci 0))]
abbrev OM:List AO:=
 [o1 14 (.bin .lss (.t 13) (.t 12))]
abbrev OL:List AO:=
 [o1 15 (.ia 5 (.t 11) (.t 13)),o1 16 (.ld 5 true (.t 15)),o1 5 (.al 60 [.n .i64 0,.n .i64 0,.n .i64 0,.n .i64 0,.n .u32 0]),
  (o3 (.st 5 (.t 5) (.t 16)))]
abbrev OK:List AO:=
 [o1 18 (.ld 5 true (.t 5)),
  (o2 19 68 [.t 18]),
  (mt 17 19),o1 20 (.ext 0 (.t 17)),o1 21 (.ext 1 (.t 17)),
  (mt 6 20),
  (mt 7 21)]
abbrev OJ:List AO:=
 [(mt 22 6),
  (mt 23 7),o1 24 (.bs 3 1 1 [.n .i64 0] [(0,1,(.t 23))]),o1 25 (.app 3 1 8 (.t 22) (.t 24)),o1 26 (.len (.t 25)),o1 27 (.mv (ci 0))]
abbrev OI:List AO:=
 [o1 28 (.bin .lss (.t 27) (.t 26))]
abbrev OH:List AO:=
 [o1 29 (.ia 1 (.t 25) (.t 27)),o1 30 (.ld 1 false (.t 29)),
  (mt 9 30)]
abbrev OG:List AO:=
 [(mt 31 9),o1 32 (.bin .geq (.t 31) (ci 0))]
abbrev Gf:List AO:=
 [(mt 33 3),
  (mt 34 9),⟨none,none,.mo (.mu (.t 33) (.t 34) (.c (.b true)))⟩]
abbrev Gj:AC:=
 (.seq (.reg OH) (.seq (.reg OG) (.cond (.t 32) (.reg Gf) .skip)))
abbrev Gd:List AO:=
 [o1 35 (.bin .add (.t 27) (ci 1)),
  (mt 27 35)]
abbrev Gl:AC:=
 (.seq (.reg OI) (.seq (.cond (.t 28) .skip (.exit 2)) (.seq (.block 3 Gj) (.reg Gd))))
abbrev Gi:AC:=
 (.loop Gl)
abbrev Gh:AC:=
 (.seq (.reg OL) (.seq (.reg OK) (.seq (.reg OJ) (.block 2 Gi))))
abbrev Gc:List AO:=
 [o1 36 (.bin .add (.t 13) (ci 1)),
  (mt 13 36)]
abbrev Gk:AC:=
 (.seq (.reg OM) (.seq (.cond (.t 14) .skip (.exit 0)) (.seq (.block 1 Gh) (.reg Gc))))
abbrev Gg:AC:=
 (.loop Gk)
abbrev Gb:List AO:=
 [(mt 37 3),
  (o2 38 38 [.t 37]),
  (o2 39 37 [.t 38]),
  (mt 2 39)]
abbrev R5:AF:=⟨40,(.seq (.reg OQ) (.seq (.reg OP) (.seq (.seq (.reg OO) (.block 0 Gg)) (.seq (.reg Gb) .ret)))),[.mv (.t 2)]⟩
theorem OS:bE Try.prog (aE Try.prog 52) 52=some R5:=by kernel_rfl
/-! allocate.replaced-/
abbrev OA:List AO:=
 [o1 2 (.bx 60 0 (.t 0)),o1 4 (.al 60 [.n .i64 0,.n .i64 0,.n .i64 0,.n .i64 0,.n .u32 0])]
abbrev Oz:List AO:=
 [o1 9 (.fa 1 (.t 2)),o1 10 (.fa 2 (.t 2)),o1 11 (.fa 3 (.t 2)),o1 12 (.bs 120 1 3 [.p0,.p0,.p0] [(0,1,(.t 9)),(1,1,(.t 10)),(2,1,(.t 11))]),o1 13 (.len (.t 12)),o1 14 (.mv (ci 0))]
abbrev Oy:List AO:=
 [o1 15 (.bin .lss (.t 14) (.t 13))]
abbrev Ox:List AO:=
 [o1 16 (.ia 1 (.t 12) (.t 14)),o1 17 (.ld 1 false (.t 16)),
  (mt 6 17)]
abbrev Ow:List AO:=
 [(mt 19 1),
  (mt 20 6),o1 21 (.nc (.t 20)),o1 22 (.ld 1 false (.t 21)),⟨some 23,none,.mo (.lk (.n .i64 0) true (.t 19) (.t 22))⟩,
  (mt 18 23),o1 24 (.ext 0 (.t 18)),o1 25 (.ext 1 (.t 18)),
  (mt 7 24),
  (mt 8 25)]
abbrev Ov:List AO:=
 [(mt 26 8)]
abbrev Ou:List AO:=
 [(mt 27 6),
  (mt 28 7),o1 29 (.nc (.t 27)),
  (o3 (.st 1 (.t 29) (.t 28)))]
abbrev OD:AC:=
 (.seq (.reg Ox) (.seq (.reg Ow) (.seq (.reg Ov) (.cond (.t 26) (.reg Ou) .skip))))
abbrev Ot:List AO:=
 [o1 30 (.bin .add (.t 14) (ci 1)),
  (mt 14 30)]
abbrev OE:AC:=
 (.seq (.reg Oy) (.seq (.cond (.t 15) .skip (.exit 0)) (.seq (.block 1 OD) (.reg Ot))))
abbrev Ga:AC:=
 (.loop OE)
abbrev F9:List AO:=
 [o1 31 (.ld 5 true (.t 2)),
  (o3 (.st 5 (.t 4) (.t 31)))]
abbrev R4:AF:=⟨32,(.seq (.reg OA) (.seq (.seq (.reg Oz) (.block 0 Ga)) (.seq (.reg F9) .ret))),[.ld 5 true (.t 4)]⟩
theorem OC:bE Try.prog (aE Try.prog 46) 46=some R4:=by kernel_rfl
/-! allocate.copied-/
abbrev Om:List AO:=
 [o1 1 (.bx 25 0 (.t 0)),o1 2 (.al 25 [.sl0,.n .i64 0,.n .i64 0,.sl0])]
abbrev Oq:List (Nat×AO):=
 [(2,(o1 3 (.fa 0 (.t 1)))),(2,(o1 6 (.fa 3 (.t 1)))),(1,(o1 4 (.ld 1 false (.t 3)))),(1,(o1 7 (.ld 1 false (.t 6)))),
  (0,(o2 5 75 [.t 4])),(2,(o1 9 (.fa 0 (.t 1)))),
  (3,(o2 8 29 [.t 7])),
  (3,(o3 (.st 1 (.t 9) (.t 5)))),(2,(o1 10 (.fa 3 (.t 1)))),
  (3,(o3 (.st 1 (.t 10) (.t 8))))]
abbrev Ol:List AO:=
 [o1 11 (.ld 4 true (.t 1)),
  (o3 (.st 4 (.t 2) (.t 11)))]
abbrev R3:AF:=⟨12,(.seq (.reg Om) (.seq (.mix Oq) (.seq (.reg Ol) .ret))),[.ld 4 true (.t 2)]⟩
theorem Oo:bE Try.prog (aE Try.prog 44) 44=some R3:=by kernel_rfl
/-! allocate.renamed-/
abbrev Og:List AO:=
 [o1 3 (.bx 25 0 (.t 0)),o1 6 (.al 25 [.sl0,.n .i64 0,.n .i64 0,.sl0])]
abbrev Oe:List AO:=
 [o1 10 (.ld 4 true (.t 3)),
  (o2 11 44 [.t 10]),o1 7 (.al 25 [.sl0,.n .i64 0,.n .i64 0,.sl0]),
  (o3 (.st 4 (.t 7) (.t 11)))]
abbrev Od:List AO:=
 [(mt 12 2),o1 13 (.fa 1 (.t 7)),
  (o3 (.st 1 (.t 13) (.t 12)))]
abbrev Oc:List AO:=
 [o1 14 (.fa 3 (.t 7)),o1 15 (.ld 1 false (.t 14)),o1 16 (.len (.t 15)),o1 17 (.mv (ci 0))]
abbrev Ob:List AO:=
 [o1 18 (.bin .lss (.t 17) (.t 16))]
abbrev Oa:List AO:=
 [(mt 19 17),o1 20 (.ia 5 (.t 15) (.t 17)),o1 21 (.ld 5 true (.t 20)),o1 9 (.al 60 [.n .i64 0,.n .i64 0,.n .i64 0,.n .i64 0,.n .u32 0]),
  (mt 8 19),
  (o3 (.st 5 (.t 9) (.t 21)))]
abbrev Oi:List (Nat×AO):=
 [(2,(o1 22 (.fa 3 (.t 7)))),
  (2,(mt 24 8)),
  (2,(mt 26 1)),(1,(o1 23 (.ld 1 false (.t 22)))),(1,(o1 25 (.ld 5 true (.t 9)))),
  (0,(o2 27 46 [.t 25,.t 26])),(2,(o1 28 (.ia 5 (.t 23) (.t 24)))),
  (3,(o3 (.st 5 (.t 28) (.t 27))))]
abbrev Oj:AC:=
 (.seq (.reg Oa) (.mix Oi))
abbrev N9:List AO:=
 [o1 29 (.bin .add (.t 17) (ci 1)),
  (mt 17 29)]
abbrev Ok:AC:=
 (.seq (.reg Ob) (.seq (.cond (.t 18) .skip (.exit 0)) (.seq (.block 1 Oj) (.reg N9))))
abbrev F8:AC:=
 (.loop Ok)
abbrev F7:List AO:=
 [o1 30 (.ld 4 true (.t 7)),
  (o3 (.st 4 (.t 6) (.t 30)))]
abbrev R2:AF:=⟨31,(.seq (.reg Og) (.seq (.reg Oe) (.seq (.reg Od) (.seq (.seq (.reg Oc) (.block 0 F8)) (.seq (.reg F7) .ret))))),[.ld 4 true (.t 6)]⟩
theorem Oh:bE Try.prog (aE Try.prog 43) 43=some R2:=by kernel_rfl
/-! allocate.Compact-/
abbrev N7:List AO:=
 [o1 1 (.bx 25 0 (.t 0)),o1 2 (.al 25 [.sl0,.n .i64 0,.n .i64 0,.sl0]),o1 3 (.mv (ci 0))]
abbrev N6:List AO:=
 [o1 10 (.ld 4 true (.t 1)),
  (o2 11 27 [.t 10]),
  (mt 9 11),o1 12 (.ext 0 (.t 9)),o1 13 (.ext 1 (.t 9)),
  (mt 4 12),
  (mt 5 13)]
abbrev N5:List AO:=
 [(mt 14 5),o1 15 (.bin .neq (.t 14) (ci 0))]
abbrev N4:List AO:=
 [o1 16 (.bd [.sl0,.n .i64 0,.n .i64 0,.sl0] []),
  (mt 17 5),
  (o3 (.st 4 (.t 2) (.t 16))),
  (mt 3 17)]
abbrev N3:List AO:=
 [⟨some 18,none,.mo (.mm)⟩,
  (mt 6 18)]
abbrev N1:List AO:=
 [o1 19 (.fa 3 (.t 1)),o1 20 (.ld 1 false (.t 19)),
  (o2 21 52 [.t 20]),o1 22 (.len (.t 21)),o1 23 (.mv (ci 0))]
abbrev N0:List AO:=
 [o1 24 (.bin .lss (.t 23) (.t 22))]
abbrev NZ:List AO:=
 [(mt 25 23),o1 26 (.ia 1 (.t 21) (.t 23)),o1 27 (.ld 1 false (.t 26)),
  (mt 7 25),
  (mt 8 27)]
abbrev NY:List AO:=
 [(mt 28 6),
  (mt 29 8),
  (mt 30 7),⟨none,none,.mo (.mu (.t 28) (.t 29) (.t 30))⟩]
abbrev N8:AC:=
 (.seq (.reg NZ) (.reg NY))
abbrev F4:List AO:=
 [o1 31 (.bin .add (.t 23) (ci 1)),
  (mt 23 31)]
abbrev F6:AC:=
 (.seq (.reg N0) (.seq (.cond (.t 24) .skip (.exit 0)) (.seq (.block 1 N8) (.reg F4))))
abbrev F5:AC:=
 (.loop F6)
abbrev F3:List AO:=
 [o1 32 (.ld 4 true (.t 1)),
  (mt 33 6),
  (mt 34 6),⟨some 35,none,.mo (.ln (.t 34))⟩,
  (o2 36 43 [.t 32,.t 33,.t 35]),
  (o3 (.st 4 (.t 2) (.t 36))),o1 3 (.mv (ci 0))]
abbrev R1:AF:=⟨37,(.seq (.reg N7) (.seq (.seq (.reg N6) (.seq (.reg N5) (.cond (.t 15) (.seq (.reg N4) .ret) .skip))) (.seq (.reg N3) (.seq (.seq (.reg N1) (.block 0 F5)) (.seq (.reg F3) .ret))))),[.ld 4 true (.t 2),.mv (.t 3)]⟩
theorem Ch:bE Try.prog (aE Try.prog 20) 20=some R1:=by kernel_rfl
/-! allocate.interference-/
abbrev NV:List AO:=
 [o1 2 (.mv (.c (.cv (.map none))))]
abbrev NU:List AO:=
 [⟨some 16,none,.mo (.mm)⟩,o1 3 (.al 117 [.cv (.map none)]),
  (o3 (.st 1 (.t 3) (.t 16)))]
abbrev NT:List AO:=
 [o1 17 (.mf 94 [] [.t 3]),
  (mt 4 17)]
abbrev NS:List AO:=
 [(mt 19 0),
  (o2 20 36 [.t 19]),
  (mt 18 20),o1 21 (.ext 0 (.t 18)),o1 22 (.ext 1 (.t 18)),
  (mt 5 21),
  (mt 6 22)]
abbrev NQ:List AO:=
 [(mt 23 5),o1 24 (.ia 1 (.t 23) (ci 0)),o1 25 (.ld 1 false (.t 24)),⟨some 26,none,.mo (.rg (.t 25))⟩]
abbrev NP:List AO:=
 [⟨some 27,none,.mo (.nx (.t 26))⟩,o1 28 (.ext 0 (.t 27))]
abbrev NN:List AO:=
 [⟨some 29,none,.mo (.en (.t 26))⟩,o1 30 (.ext 0 (.t 29)),
  (mt 7 30)]
abbrev NM:List AO:=
 [(mt 31 5),o1 32 (.ia 1 (.t 31) (ci 0)),o1 33 (.ld 1 false (.t 32)),⟨some 34,none,.mo (.rg (.t 33))⟩]
abbrev NL:List AO:=
 [⟨some 35,none,.mo (.nx (.t 34))⟩,o1 36 (.ext 0 (.t 35))]
abbrev NK:List AO:=
 [⟨some 37,none,.mo (.en (.t 34))⟩,o1 38 (.ext 0 (.t 37)),
  (mt 8 38)]
abbrev FP:List AO:=
 [(mt 39 7),
  (mt 40 8),o1 41 (.bin .neq (.t 39) (.t 40))]
abbrev FO:List AO:=
 [(mt 42 4),
  (mt 43 7),
  (mt 44 8),⟨some 45,none,.cl (.t 42) [.t 43,.t 44]⟩]
abbrev FX:AC:=
 (.seq (.reg NK) (.seq (.reg FP) (.cond (.t 41) (.reg FO) .skip)))
abbrev F2:AC:=
 (.seq (.reg NL) (.seq (.cond (.t 36) .skip (.exit 2)) (.block 3 FX)))
abbrev FW:AC:=
 (.loop F2)
abbrev FV:AC:=
 (.seq (.reg NN) (.seq (.reg NM) (.block 2 FW)))
abbrev F1:AC:=
 (.seq (.reg NP) (.seq (.cond (.t 28) .skip (.exit 0)) (.block 1 FV)))
abbrev wA:AC:=
 (.loop F1)
abbrev FN:List AO:=
 [(mt 46 0),o1 47 (.len (.t 46)),o1 48 (.mv (ci 0))]
abbrev FM:List AO:=
 [o1 49 (.bin .lss (.t 48) (.t 47))]
abbrev FL:List AO:=
 [(mt 50 48),o1 51 (.ia 5 (.t 46) (.t 48)),o1 52 (.ld 5 true (.t 51)),o1 10 (.al 60 [.n .i64 0,.n .i64 0,.n .i64 0,.n .i64 0,.n .u32 0]),
  (mt 9 50),
  (o3 (.st 5 (.t 10) (.t 52)))]
abbrev FK:List AO:=
 [o1 54 (.ld 5 true (.t 10)),
  (o2 55 68 [.t 54]),
  (mt 53 55),o1 56 (.ext 0 (.t 53)),o1 57 (.ext 1 (.t 53)),
  (mt 11 56),
  (mt 12 57)]
abbrev FJ:List AO:=
 [(mt 58 6),
  (mt 59 9),o1 60 (.ia 1 (.t 58) (.t 59)),o1 61 (.ld 1 false (.t 60)),o1 62 (.len (.t 61)),o1 63 (.mv (ci 0))]
abbrev FI:List AO:=
 [o1 64 (.bin .lss (.t 63) (.t 62))]
abbrev FH:List AO:=
 [o1 65 (.ia 1 (.t 61) (.t 63)),o1 66 (.ld 1 false (.t 65)),
  (mt 14 66)]
abbrev FG:List AO:=
 [(mt 67 5),
  (mt 68 14),o1 69 (.ia 1 (.t 67) (.t 68)),o1 70 (.ld 1 false (.t 69)),⟨some 71,none,.mo (.rg (.t 70))⟩]
abbrev FF:List AO:=
 [⟨some 72,none,.mo (.nx (.t 71))⟩,o1 73 (.ext 0 (.t 72))]
abbrev FE:List AO:=
 [⟨some 74,none,.mo (.en (.t 71))⟩,o1 75 (.ext 0 (.t 74)),
  (mt 15 75)]
abbrev FD:List AO:=
 [(mt 76 12),o1 77 (.bin .geq (.t 76) (ci 0)),
  (mt 78 77),
  (o5 79 78 (.mv (.t 15))),
  (o5 80 78 (.mv (.t 12))),
  (o5 81 78 (.bin .neq (.t 79) (.t 80))),o1 82 (.pick (.t 78) (.t 81) (.c (.b false)))]
abbrev FC:List AO:=
 [(mt 83 4),
  (mt 84 12),
  (mt 85 15),⟨some 86,none,.cl (.t 83) [.t 84,.t 85]⟩]
abbrev FU:AC:=
 (.seq (.reg FE) (.seq (.reg FD) (.cond (.t 82) (.reg FC) .skip)))
abbrev F0:AC:=
 (.seq (.reg FF) (.seq (.cond (.t 73) .skip (.exit 8)) (.block 9 FU)))
abbrev FT:AC:=
 (.loop F0)
abbrev FS:AC:=
 (.seq (.reg FH) (.seq (.reg FG) (.block 8 FT)))
abbrev FB:List AO:=
 [o1 87 (.bin .add (.t 63) (ci 1)),
  (mt 63 87)]
abbrev FZ:AC:=
 (.seq (.reg FI) (.seq (.cond (.t 64) .skip (.exit 6)) (.seq (.block 7 FS) (.reg FB))))
abbrev FR:AC:=
 (.loop FZ)
abbrev FQ:AC:=
 (.seq (.reg FL) (.seq (.reg FK) (.seq (.reg FJ) (.block 6 FR))))
abbrev FA:List AO:=
 [o1 88 (.bin .add (.t 48) (ci 1)),
  (mt 48 88)]
abbrev FY:AC:=
 (.seq (.reg FM) (.seq (.cond (.t 49) .skip (.exit 4)) (.seq (.block 5 FQ) (.reg FA))))
abbrev wy:AC:=
 (.loop FY)
abbrev Fy:List AO:=
 [o1 89 (.ld 1 false (.t 3)),
  (mt 2 89)]
abbrev R0:AF:=⟨90,(.seq (.reg NV) (.seq (.reg NU) (.seq (.reg NT) (.seq (.reg NS) (.seq (.seq (.reg NQ) (.block 0 wA)) (.seq (.seq (.reg FN) (.block 4 wy)) (.seq (.reg Fy) .ret))))))),[.mv (.t 2)]⟩
theorem NW:bE Try.prog (aE Try.prog 74) 74=some R0:=by kernel_rfl
/-! allocate.interference$1-/
abbrev NF:List AO:=
 [(mt 7 0),
  (mt 8 1),o1 9 (.bd [.n .i64 0,.n .i64 0] [(0,1,(.t 7)),(1,1,(.t 8))]),
  (mt 10 1),
  (mt 11 0),o1 12 (.bd [.n .i64 0,.n .i64 0] [(0,1,(.t 10)),(1,1,(.t 11))]),o1 13 (.bs 142 2 2 [.n .i64 0,.n .i64 0,.n .i64 0,.n .i64 0] [(0,2,(.t 9)),(2,2,(.t 12))]),o1 14 (.len (.t 13)),o1 15 (.mv (ci 0))]
abbrev ND:List AO:=
 [o1 16 (.bin .lss (.t 15) (.t 14))]
abbrev NC:List AO:=
 [o1 17 (.ia 2 (.t 13) (.t 15)),o1 18 (.ld 2 true (.t 17)),o1 6 (.al 142 [.n .i64 0,.n .i64 0]),
  (o3 (.st 2 (.t 6) (.t 18)))]
abbrev Nz:List AO:=
 [o1 19 (.ld 1 false (.t 2)),o1 20 (.iaa 2 1 (.t 6) (ci 0)),o1 21 (.ld 1 false (.t 20)),⟨some 22,none,.mo (.lk (.cv (.map none)) false (.t 19) (.t 21))⟩,⟨some 23,none,.mo (.mn false (.t 22))⟩]
abbrev Ny:List AO:=
 [o1 24 (.ld 1 false (.t 2)),o1 25 (.iaa 2 1 (.t 6) (ci 0)),o1 26 (.ld 1 false (.t 25)),⟨some 27,none,.mo (.mm)⟩,⟨none,none,.mo (.mu (.t 24) (.t 26) (.t 27))⟩]
abbrev Nx:List AO:=
 [o1 28 (.ld 1 false (.t 2)),o1 29 (.iaa 2 1 (.t 6) (ci 0)),o1 30 (.ld 1 false (.t 29)),⟨some 31,none,.mo (.lk (.cv (.map none)) false (.t 28) (.t 30))⟩,o1 32 (.iaa 2 1 (.t 6) (ci 1)),o1 33 (.ld 1 false (.t 32)),⟨none,none,.mo (.mu (.t 31) (.t 33) (.c (.b true)))⟩]
abbrev NI:AC:=
 (.seq (.reg NC) (.seq (.seq (.reg Nz) (.cond (.t 23) (.reg Ny) .skip)) (.reg Nx)))
abbrev Nw:List AO:=
 [o1 34 (.bin .add (.t 15) (ci 1)),
  (mt 15 34)]
abbrev NJ:AC:=
 (.seq (.reg ND) (.seq (.cond (.t 16) .skip (.exit 0)) (.seq (.block 1 NI) (.reg Nw))))
abbrev NH:AC:=
 (.loop NJ)
abbrev RZ:AF:=⟨35,(.seq (.reg NF) (.block 0 NH)),[]⟩
theorem NG:bE Try.prog (aE Try.prog 94) 94=some RZ:=by kernel_rfl
/-! allocate.spiller.cell-/
abbrev Nt:List AO:=
 [o1 2 (.bx 83 0 (.t 0)),o1 4 (.mv (.c (.n .u32 0))),o1 5 (.mv (.c (.b false)))]
abbrev Nv:List (Nat×AO):=
 [(2,(o1 6 (.fa 1 (.t 2)))),
  (2,(mt 8 1)),(2,(o1 10 (.fa 0 (.t 2)))),
  (2,(mt 14 1)),(2,(o1 15 (.fa 0 (.t 2)))),(1,(o1 7 (.ld 1 false (.t 6)))),(2,(o1 9 (.bin .add (.t 7) (.t 8)))),(1,(o1 11 (.ld 1 false (.t 10)))),(2,(o1 12 (.bin .sub (.t 9) (.t 11)))),(2,(o1 13 (.cvi .u32 (.t 12)))),
  (2,(mt 4 13)),(1,(o1 16 (.ld 1 false (.t 15)))),(2,(o1 17 (.bin .geq (.t 14) (.t 16)))),
  (2,(mt 5 17))]
abbrev RY:AF:=⟨18,(.seq (.reg Nt) (.seq (.mix Nv) .ret)),[.mv (.t 4),.mv (.t 5)]⟩
theorem Nu:bE Try.prog (aE Try.prog 76) 76=some RY:=by kernel_rfl
/-! allocate.sequence-/
abbrev Nr:List AO:=
 [o1 2 (.mv (.c .sl0))]
abbrev Nq:List AO:=
 [(mt 3 0),
  (mt 2 3)]
abbrev RX:AF:=⟨4,(.seq (.reg Nr) (.seq (.reg Nq) .ret)),[.mv (.t 2)]⟩
theorem Ns:bE Try.prog (aE Try.prog 77) 77=some RX:=by kernel_rfl
/-! allocate.spiller.rewrite-/
abbrev Nl:List AO:=
 [o1 2 (.bx 83 0 (.t 0)),o1 3 (.bx 60 0 (.t 1)),o1 4 (.mv (.c .sl0))]
abbrev Nk:List AO:=
 [o1 5 (.mv (.c .sl0)),o1 6 (.mv (.c .sl0))]
abbrev Nj:List AO:=
 [o1 13 (.fa 2 (.t 3)),o1 14 (.fa 3 (.t 3)),o1 15 (.bs 120 1 2 [.p0,.p0] [(0,1,(.t 13)),(1,1,(.t 14))]),o1 16 (.len (.t 15)),o1 17 (.mv (ci 0))]
abbrev Ni:List AO:=
 [o1 18 (.bin .lss (.t 17) (.t 16))]
abbrev Nh:List AO:=
 [(mt 19 17),o1 20 (.ia 1 (.t 15) (.t 17)),o1 21 (.ld 1 false (.t 20)),
  (mt 7 19),
  (mt 8 21)]
abbrev Nn:List (Nat×AO):=
 [(2,(mt 24 8)),(2,(o1 25 (.nc (.t 24)))),(1,(o1 23 (.ld 2 true (.t 2)))),(1,(o1 26 (.ld 1 false (.t 25)))),
  (3,(o2 27 76 [.t 23,.t 26])),
  (2,(mt 22 27)),(2,(o1 28 (.ext 0 (.t 22)))),(2,(o1 29 (.ext 1 (.t 22)))),
  (2,(mt 9 28)),
  (2,(mt 10 29))]
abbrev Ng:List AO:=
 [(mt 30 10)]
abbrev Nf:List AO:=
 [(mt 31 8),o1 32 (.fa 0 (.t 2)),o1 33 (.ld 1 false (.t 32)),
  (mt 34 7),o1 35 (.bin .add (.t 33) (.t 34)),o1 36 (.nc (.t 31)),
  (o3 (.st 1 (.t 36) (.t 35)))]
abbrev Nd:List AO:=
 [(mt 37 5),
  (mt 38 8),o1 39 (.nc (.t 38)),o1 40 (.ld 1 false (.t 39)),
  (mt 41 9),o1 42 (.bd [.n .i64 0,.n .i64 0,.n .i64 0,.n .i64 0,.n .u32 0] [(0,1,(ci 38)),(1,1,(.t 40)),(2,1,(.c (.n .i64 (-1)))),(3,1,(.c (.n .i64 (-1)))),(4,1,(.t 41))]),o1 43 (.bs 60 5 1 [.n .i64 0,.n .i64 0,.n .i64 0,.n .i64 0,.n .u32 0] [(0,5,(.t 42))]),o1 44 (.app 60 5 40 (.t 37) (.t 43)),
  (mt 5 44)]
abbrev Np:AC:=
 (.seq (.reg Nh) (.seq (.mix Nn) (.seq (.reg Ng) (.cond (.t 30) (.seq (.reg Nf) (.reg Nd)) .skip))))
abbrev Fv:List AO:=
 [o1 45 (.bin .add (.t 17) (ci 1)),
  (mt 17 45)]
abbrev Fx:AC:=
 (.seq (.reg Ni) (.seq (.cond (.t 18) .skip (.exit 0)) (.seq (.block 1 Np) (.reg Fv))))
abbrev Fw:AC:=
 (.loop Fx)
abbrev Fu:List AO:=
 [o1 47 (.ld 2 true (.t 2)),o1 48 (.fa 1 (.t 3)),o1 49 (.ld 1 false (.t 48)),
  (o2 50 76 [.t 47,.t 49]),
  (mt 46 50),o1 51 (.ext 0 (.t 46)),o1 52 (.ext 1 (.t 46)),
  (mt 11 51),
  (mt 12 52)]
abbrev Ft:List AO:=
 [(mt 53 12)]
abbrev Fs:List AO:=
 [o1 54 (.fa 0 (.t 2)),o1 55 (.ld 1 false (.t 54)),o1 56 (.bin .add (.t 55) (ci 2)),o1 57 (.fa 1 (.t 3)),
  (o3 (.st 1 (.t 57) (.t 56)))]
abbrev Fq:List AO:=
 [o1 58 (.fa 1 (.t 3)),o1 59 (.ld 1 false (.t 58)),
  (mt 60 11),o1 61 (.bd [.n .i64 0,.n .i64 0,.n .i64 0,.n .i64 0,.n .u32 0] [(0,1,(ci 37)),(1,1,(.c (.n .i64 (-1)))),(2,1,(.t 59)),(3,1,(.c (.n .i64 (-1)))),(4,1,(.t 60))]),o1 62 (.bs 60 5 1 [.n .i64 0,.n .i64 0,.n .i64 0,.n .i64 0,.n .u32 0] [(0,5,(.t 61))]),
  (o2 63 77 [.t 62]),
  (mt 6 63)]
abbrev wx:List AO:=
 [(mt 64 5),o1 65 (.ld 5 true (.t 3)),o1 66 (.bs 60 5 1 [.n .i64 0,.n .i64 0,.n .i64 0,.n .i64 0,.n .u32 0] [(0,5,(.t 65))]),
  (o2 67 77 [.t 66]),
  (mt 68 6),o1 69 (.bs 23 1 3 [.sl0,.sl0,.sl0] [(0,1,(.t 64)),(1,1,(.t 67)),(2,1,(.t 68))]),
  (o2 70 78 [.t 69]),
  (mt 4 70)]
abbrev RJ:AF:=⟨71,(.seq (.reg Nl) (.seq (.reg Nk) (.seq (.seq (.reg Nj) (.block 0 Fw)) (.seq (.seq (.reg Fu) (.seq (.reg Ft) (.cond (.t 53) (.seq (.reg Fs) (.reg Fq)) .skip))) (.seq (.reg wx) .ret))))),[.mv (.t 4)]⟩
theorem Nm:bE Try.prog (aE Try.prog 45) 45=some RJ:=by kernel_rfl
/-! allocate.Allocate-/
abbrev Nc:List AO:=
 [o1 2 (.bx 25 0 (.t 0)),o1 4 (.al 25 [.sl0,.n .i64 0,.n .i64 0,.sl0]),o1 5 (.mv (ci 0))]
abbrev Nb:List AO:=
 [o1 15 (.ld 4 true (.t 2)),
  (o2 16 27 [.t 15]),
  (mt 14 16),o1 17 (.ext 0 (.t 14)),o1 18 (.ext 1 (.t 14)),
  (mt 6 17),
  (mt 7 18)]
abbrev Na:List AO:=
 [(mt 19 7),o1 20 (.bin .neq (.t 19) (ci 0))]
abbrev M9:List AO:=
 [o1 21 (.bd [.sl0,.n .i64 0,.n .i64 0,.sl0] []),
  (mt 22 7),
  (o3 (.st 4 (.t 4) (.t 21))),
  (mt 5 22)]
abbrev M8:List AO:=
 [(mt 23 1),o1 24 (.bin .lss (.t 23) (ci 4)),
  (mt 25 24),
  (o4 26 25 (.mv (.t 1))),
  (o4 27 25 (.bin .gtr (.t 26) (ci 1024))),o1 28 (.pick (.t 25) (.c (.b true)) (.t 27))]
abbrev M7:List AO:=
 [o1 29 (.bd [.sl0,.n .i64 0,.n .i64 0,.sl0] []),
  (o3 (.st 4 (.t 4) (.t 29))),o1 5 (.mv (ci 2))]
abbrev M6:List AO:=
 [o1 31 (.fa 3 (.t 2)),o1 32 (.ld 1 false (.t 31)),
  (o2 33 42 [.t 32]),
  (mt 30 33),o1 34 (.ext 0 (.t 30)),o1 35 (.ext 1 (.t 30)),
  (mt 8 34),
  (mt 9 35)]
abbrev M5:List AO:=
 [(mt 36 9),
  (mt 37 1),o1 38 (.bin .leq (.t 36) (.t 37))]
abbrev M4:List AO:=
 [o1 39 (.ld 4 true (.t 2)),
  (mt 40 8),
  (mt 41 9),
  (o2 42 43 [.t 39,.t 40,.t 41]),
  (o3 (.st 4 (.t 4) (.t 42))),o1 5 (.mv (ci 0))]
abbrev M3:List AO:=
 [(mt 43 1),o1 44 (.bin .sub (.t 43) (ci 3)),o1 45 (.fa 2 (.t 2)),o1 46 (.ld 1 false (.t 45)),o1 47 (.bd [.n .i64 0,.n .i64 0] [(0,1,(.t 44)),(1,1,(.t 46))]),o1 10 (.al 83 [.n .i64 0,.n .i64 0]),
  (o3 (.st 2 (.t 10) (.t 47)))]
abbrev Fj:List AO:=
 [o1 48 (.ld 4 true (.t 2)),
  (o2 49 44 [.t 48]),o1 11 (.al 25 [.sl0,.n .i64 0,.n .i64 0,.sl0]),
  (o3 (.st 4 (.t 11) (.t 49)))]
abbrev Fl:List (Nat×AO):=
 [(2,(mt 50 1)),(2,(o1 51 (.fa 2 (.t 2)))),
  (2,(mt 53 9)),(2,(o1 55 (.fa 0 (.t 10)))),(2,(o1 58 (.fa 1 (.t 11)))),(1,(o1 52 (.ld 1 false (.t 51)))),(2,(o1 54 (.bin .add (.t 52) (.t 53)))),(1,(o1 56 (.ld 1 false (.t 55)))),(2,(o1 57 (.bin .sub (.t 54) (.t 56)))),
  (0,(o3 (.st 1 (.t 58) (.t 50)))),(2,(o1 59 (.fa 2 (.t 11)))),
  (3,(o3 (.st 1 (.t 59) (.t 57)))),(2,(o1 60 (.fa 3 (.t 11)))),
  (3,(o3 (.st 1 (.t 60) (.c .sl0))))]
abbrev Fi:List AO:=
 [o1 61 (.fa 3 (.t 2)),o1 62 (.ld 1 false (.t 61)),o1 63 (.len (.t 62)),o1 64 (.mv (ci 0))]
abbrev Fh:List AO:=
 [o1 65 (.bin .lss (.t 64) (.t 63))]
abbrev Fg:List AO:=
 [o1 66 (.ia 5 (.t 62) (.t 64)),o1 67 (.ld 5 true (.t 66)),o1 13 (.al 60 [.n .i64 0,.n .i64 0,.n .i64 0,.n .i64 0,.n .u32 0]),
  (o3 (.st 5 (.t 13) (.t 67)))]
abbrev Fk:List (Nat×AO):=
 [(2,(o1 68 (.fa 3 (.t 11)))),
  (2,(mt 72 8)),(1,(o1 69 (.ld 1 false (.t 68)))),(1,(o1 70 (.ld 2 true (.t 10)))),(1,(o1 71 (.ld 5 true (.t 13)))),
  (0,(o2 73 46 [.t 71,.t 72])),
  (0,(o2 74 45 [.t 70,.t 73])),(3,(o1 75 (.app 60 5 40 (.t 69) (.t 74)))),(2,(o1 76 (.fa 3 (.t 11)))),
  (3,(o3 (.st 1 (.t 76) (.t 75))))]
abbrev Fo:AC:=
 (.seq (.reg Fg) (.mix Fk))
abbrev Ff:List AO:=
 [o1 77 (.bin .add (.t 64) (ci 1)),
  (mt 64 77)]
abbrev Fp:AC:=
 (.seq (.reg Fh) (.seq (.cond (.t 65) .skip (.exit 0)) (.seq (.block 1 Fo) (.reg Ff))))
abbrev Fm:AC:=
 (.loop Fp)
abbrev Fe:List AO:=
 [o1 78 (.fa 2 (.t 11)),o1 79 (.ld 1 false (.t 78)),o1 80 (.bin .gtr (.t 79) (ci 1024)),
  (mt 81 80),
  (o4 82 81 (.fa 3 (.t 11))),
  (o4 83 81 (.ld 1 false (.t 82))),
  (o4 84 81 (.len (.t 83))),
  (o4 85 81 (.bin .gtr (.t 84) (ci 16384))),o1 86 (.pick (.t 81) (.c (.b true)) (.t 85))]
abbrev Fd:List AO:=
 [o1 87 (.bd [.sl0,.n .i64 0,.n .i64 0,.sl0] []),
  (o3 (.st 4 (.t 4) (.t 87))),o1 5 (.mv (ci 6))]
abbrev Fc:List AO:=
 [o1 88 (.ld 4 true (.t 11)),
  (o3 (.st 4 (.t 4) (.t 88))),o1 5 (.mv (ci 0))]
abbrev RH:AF:=⟨89,(.seq (.reg Nc) (.seq (.seq (.reg Nb) (.seq (.reg Na) (.cond (.t 20) (.seq (.reg M9) .ret) .skip))) (.seq (.seq (.reg M8) (.cond (.t 28) (.seq (.reg M7) .ret) .skip)) (.seq (.reg M6) (.seq (.seq (.reg M5) (.cond (.t 38) (.seq (.reg M4) .ret) .skip)) (.seq (.reg M3) (.seq (.reg Fj) (.seq (.mix Fl) (.seq (.seq (.reg Fi) (.block 0 Fm)) (.seq (.seq (.reg Fe) (.cond (.t 86) (.seq (.reg Fd) .ret) .skip)) (.seq (.reg Fc) .ret))))))))))),[.ld 4 true (.t 4),.mv (.t 5)]⟩
theorem Cg:bE Try.prog (aE Try.prog 17) 17=some RH:=by kernel_rfl
/-! allocate.Live-/
abbrev M2:List AO:=
 [o1 1 (.bx 25 0 (.t 0)),o1 2 (.mv (.c .sl0)),o1 3 (.mv (ci 0))]
abbrev M1:List AO:=
 [o1 12 (.ld 4 true (.t 1)),
  (o2 13 27 [.t 12]),
  (mt 11 13),o1 14 (.ext 0 (.t 11)),o1 15 (.ext 1 (.t 11)),
  (mt 4 14),
  (mt 5 15)]
abbrev M0:List AO:=
 [(mt 16 5),o1 17 (.bin .neq (.t 16) (ci 0))]
abbrev MZ:List AO:=
 [(mt 18 5),o1 2 (.mv (.c .sl0)),
  (mt 3 18)]
abbrev MY:List AO:=
 [o1 20 (.fa 3 (.t 1)),o1 21 (.ld 1 false (.t 20)),
  (o2 22 36 [.t 21]),
  (mt 19 22),o1 23 (.ext 0 (.t 19)),o1 24 (.ext 1 (.t 19)),
  (mt 6 23),
  (mt 7 24)]
abbrev MX:List AO:=
 [o1 8 (.mv (.c .sl0))]
abbrev MW:List AO:=
 [(mt 25 6),o1 26 (.len (.t 25)),o1 27 (.mv (ci 0))]
abbrev MV:List AO:=
 [o1 28 (.bin .lss (.t 27) (.t 26))]
abbrev MU:List AO:=
 [o1 29 (.ia 1 (.t 25) (.t 27)),o1 30 (.ld 1 false (.t 29)),
  (mt 10 30)]
abbrev MT:List AO:=
 [(mt 31 8),
  (mt 32 10),
  (o2 33 38 [.t 32]),
  (o2 34 37 [.t 33]),o1 35 (.bs 39 1 1 [.sl0] [(0,1,(.t 34))]),o1 36 (.app 39 1 24 (.t 31) (.t 35)),
  (mt 8 36)]
abbrev Fa:AC:=
 (.seq (.reg MU) (.reg MT))
abbrev E8:List AO:=
 [o1 37 (.bin .add (.t 27) (ci 1)),
  (mt 27 37)]
abbrev Fb:AC:=
 (.seq (.reg MV) (.seq (.cond (.t 28) .skip (.exit 0)) (.seq (.block 1 Fa) (.reg E8))))
abbrev E9:AC:=
 (.loop Fb)
abbrev E7:List AO:=
 [(mt 38 8),
  (mt 2 38),o1 3 (.mv (ci 0))]
abbrev RG:AF:=⟨39,(.seq (.reg M2) (.seq (.seq (.reg M1) (.seq (.reg M0) (.cond (.t 17) (.seq (.reg MZ) .ret) .skip))) (.seq (.reg MY) (.seq (.reg MX) (.seq (.seq (.reg MW) (.block 0 E9)) (.seq (.reg E7) .ret)))))),[.mv (.t 2),.mv (.t 3)]⟩
theorem Cf:bE Try.prog (aE Try.prog 11) 11=some RG:=by kernel_rfl
/-! slices.Concat[[]api.RegInstr,api.RegInstr]-/
abbrev MP:List AO:=
 [o1 2 (.mv (.c .sl0))]
abbrev MN:List AO:=
 [o1 3 (.mv (ci 0))]
abbrev MM:List AO:=
 [(mt 9 0),o1 10 (.len (.t 9)),o1 11 (.mv (ci 0))]
abbrev ML:List AO:=
 [o1 12 (.bin .lss (.t 11) (.t 10))]
abbrev MJ:List AO:=
 [o1 13 (.ia 1 (.t 9) (.t 11)),o1 14 (.ld 1 false (.t 13)),
  (mt 5 14)]
abbrev MI:List AO:=
 [(mt 15 3),
  (mt 16 5),o1 17 (.len (.t 16)),o1 18 (.bin .add (.t 15) (.t 17)),
  (mt 3 18)]
abbrev MH:List AO:=
 [(mt 19 3),o1 20 (.bin .lss (.t 19) (ci 0))]
abbrev MR:AC:=
 (.seq (.reg MJ) (.seq (.reg MI) (.seq (.reg MH) (.cond (.t 20) .die .skip))))
abbrev MG:List AO:=
 [o1 22 (.bin .add (.t 11) (ci 1)),
  (mt 11 22)]
abbrev MS:AC:=
 (.seq (.reg ML) (.seq (.cond (.t 12) .skip (.exit 0)) (.seq (.block 1 MR) (.reg MG))))
abbrev E5:AC:=
 (.loop MS)
abbrev E1:List AO:=
 [(mt 23 3),
  (o2 24 95 [(.c .sl0),.t 23]),
  (mt 6 24)]
abbrev E0:List AO:=
 [(mt 25 0),o1 26 (.len (.t 25)),o1 27 (.mv (ci 0))]
abbrev EZ:List AO:=
 [o1 28 (.bin .lss (.t 27) (.t 26))]
abbrev EY:List AO:=
 [o1 29 (.ia 1 (.t 25) (.t 27)),o1 30 (.ld 1 false (.t 29)),
  (mt 8 30)]
abbrev EX:List AO:=
 [(mt 31 6),
  (mt 32 8),o1 33 (.app 60 5 40 (.t 31) (.t 32)),
  (mt 6 33)]
abbrev E4:AC:=
 (.seq (.reg EY) (.reg EX))
abbrev EW:List AO:=
 [o1 34 (.bin .add (.t 27) (ci 1)),
  (mt 27 34)]
abbrev E6:AC:=
 (.seq (.reg EZ) (.seq (.cond (.t 28) .skip (.exit 2)) (.seq (.block 3 E4) (.reg EW))))
abbrev E3:AC:=
 (.loop E6)
abbrev EV:List AO:=
 [(mt 35 6),
  (mt 2 35)]
abbrev RF:AF:=⟨36,(.seq (.reg MP) (.seq (.reg MN) (.seq (.seq (.reg MM) (.block 0 E5)) (.seq (.reg E1) (.seq (.seq (.reg E0) (.block 2 E3)) (.seq (.reg EV) .ret)))))),[.mv (.t 2)]⟩
theorem MQ:bE Try.prog (aE Try.prog 78) 78=some RF:=by kernel_rfl
/-! slices.Grow[[]api.RegInstr,api.RegInstr]-/
abbrev ME:List AO:=
 [o1 4 (.mv (.c .sl0))]
abbrev MD:List AO:=
 [(mt 5 1),o1 6 (.bin .lss (.t 5) (ci 0))]
abbrev MC:List AO:=
 [(mt 8 1),
  (mt 9 0),o1 10 (.cpc (.t 9)),
  (mt 11 0),o1 12 (.len (.t 11)),o1 13 (.bin .sub (.t 10) (.t 12)),o1 14 (.bin .sub (.t 8) (.t 13)),
  (mt 1 14)]
abbrev MB:List AO:=
 [(mt 15 1),o1 16 (.bin .gtr (.t 15) (ci 0))]
abbrev MA:List AO:=
 [(mt 17 0),
  (mt 18 0),o1 19 (.cpc (.t 18)),o1 20 (.sl 5 (.t 17) none (some (.t 19))),
  (mt 21 1),o1 22 (.apm 60 5 40 [.n .i64 0,.n .i64 0,.n .i64 0,.n .i64 0,.n .u32 0] (.t 20) (.t 21)),
  (mt 23 0),o1 24 (.len (.t 23)),o1 25 (.sl 5 (.t 22) none (some (.t 24))),
  (mt 0 25)]
abbrev Mz:List AO:=
 [(mt 26 0),
  (mt 4 26)]
abbrev RE:AF:=⟨27,(.seq (.reg ME) (.seq (.seq (.reg MD) (.cond (.t 6) .die .skip)) (.seq (.seq (.reg MC) (.seq (.reg MB) (.cond (.t 16) (.reg MA) .skip))) (.seq (.reg Mz) .ret)))),[.mv (.t 4)]⟩
theorem MF:bE Try.prog (aE Try.prog 95) 95=some RE:=by kernel_rfl
/-! slices.DeleteFunc[[]api.RegInstr,api.RegInstr]-/
/-! allocate.liveness-/
abbrev Mv:List AO:=
 [o1 2 (.mv (.c .sl0)),o1 3 (.mv (.c .sl0))]
abbrev Mu:List AO:=
 [(mt 18 0),
  (o2 19 66 [.t 18]),o1 4 (.al 28 [.sl0]),
  (o3 (.st 1 (.t 4) (.t 19)))]
abbrev Mt:List AO:=
 [(mt 20 0),o1 21 (.len (.t 20)),o1 22 (.bin .add (.t 21) (ci 1)),o1 23 (.ms 70 1 8 [.cv (.map none)] (.t 22) (.t 22)),o1 5 (.al 66 [.sl0]),
  (o3 (.st 1 (.t 5) (.t 23)))]
abbrev Ms:List AO:=
 [o1 24 (.ld 1 false (.t 5)),o1 25 (.len (.t 24)),o1 26 (.mv (ci 0))]
abbrev Mr:List AO:=
 [o1 27 (.bin .lss (.t 26) (.t 25))]
abbrev Mq:List AO:=
 [(mt 28 26),
  (mt 6 28)]
abbrev Mp:List AO:=
 [o1 29 (.ld 1 false (.t 5)),
  (mt 30 6),⟨some 31,none,.mo (.mm)⟩,o1 32 (.ia 1 (.t 29) (.t 30)),
  (o3 (.st 1 (.t 32) (.t 31)))]
abbrev Mx:AC:=
 (.seq (.reg Mq) (.reg Mp))
abbrev Mo:List AO:=
 [o1 33 (.bin .add (.t 26) (ci 1)),
  (mt 26 33)]
abbrev My:AC:=
 (.seq (.reg Mr) (.seq (.cond (.t 27) .skip (.exit 0)) (.seq (.block 1 Mx) (.reg Mo))))
abbrev EO:AC:=
 (.loop My)
abbrev EB:List AO:=
 [o1 7 (.al 4 [.b false]),
  (o3 (.st 1 (.t 7) (.c (.b true))))]
abbrev EA:List AO:=
 [o1 34 (.ld 1 false (.t 7))]
abbrev Ez:List AO:=
 [(o3 (.st 1 (.t 7) (.c (.b false))))]
abbrev Ey:List AO:=
 [(mt 35 0),
  (o2 36 67 [.t 35])]
abbrev Ex:List AO:=
 [(mt 8 37)]
abbrev Ew:List AO:=
 [o1 9 (.al 60 [.n .i64 0,.n .i64 0,.n .i64 0,.n .i64 0,.n .u32 0]),
  (o3 (.st 5 (.t 9) (.t 38)))]
abbrev Ev:List AO:=
 [o1 39 (.ld 1 false (.t 5)),
  (mt 40 8),o1 41 (.ia 1 (.t 39) (.t 40)),o1 42 (.ld 1 false (.t 41)),⟨some 43,none,.mo (.ln (.t 42))⟩,
  (mt 10 43)]
abbrev Eu:List AO:=
 [o1 45 (.ld 5 true (.t 9)),
  (o2 46 68 [.t 45]),
  (mt 44 46),o1 47 (.ext 0 (.t 44)),o1 48 (.ext 1 (.t 44)),
  (mt 11 47),
  (mt 12 48)]
abbrev Et:List AO:=
 [o1 49 (.ld 1 false (.t 4)),
  (mt 50 8),o1 51 (.ia 1 (.t 49) (.t 50)),o1 52 (.ld 1 false (.t 51)),o1 53 (.len (.t 52)),o1 54 (.mv (ci 0))]
abbrev Es:List AO:=
 [o1 55 (.bin .lss (.t 54) (.t 53))]
abbrev Er:List AO:=
 [o1 56 (.ia 1 (.t 52) (.t 54)),o1 57 (.ld 1 false (.t 56)),
  (mt 14 57)]
abbrev Ep:List AO:=
 [o1 58 (.ld 1 false (.t 5)),
  (mt 59 14),o1 60 (.ia 1 (.t 58) (.t 59)),o1 61 (.ld 1 false (.t 60)),⟨some 62,none,.mo (.rg (.t 61))⟩]
abbrev Eo:List AO:=
 [⟨some 63,none,.mo (.nx (.t 62))⟩,o1 64 (.ext 0 (.t 63))]
abbrev En:List AO:=
 [⟨some 65,none,.mo (.en (.t 62))⟩,o1 66 (.ext 0 (.t 65)),
  (mt 15 66)]
abbrev Em:List AO:=
 [(mt 67 15),
  (mt 68 12),o1 69 (.bin .neq (.t 67) (.t 68))]
abbrev El:List AO:=
 [o1 70 (.ld 1 false (.t 5)),
  (mt 71 8),o1 72 (.ia 1 (.t 70) (.t 71)),o1 73 (.ld 1 false (.t 72)),
  (mt 74 15),⟨none,none,.mo (.mu (.t 73) (.t 74) (.c (.b true)))⟩]
abbrev EM:AC:=
 (.seq (.reg En) (.seq (.reg Em) (.cond (.t 69) (.reg El) .skip)))
abbrev EU:AC:=
 (.seq (.reg Eo) (.seq (.cond (.t 64) .skip (.exit 8)) (.block 9 EM)))
abbrev EL:AC:=
 (.loop EU)
abbrev EK:AC:=
 (.seq (.reg Er) (.seq (.reg Ep) (.block 8 EL)))
abbrev Ek:List AO:=
 [o1 75 (.bin .add (.t 54) (ci 1)),
  (mt 54 75)]
abbrev ET:AC:=
 (.seq (.reg Es) (.seq (.cond (.t 55) .skip (.exit 6)) (.seq (.block 7 EK) (.reg Ek))))
abbrev EJ:AC:=
 (.loop ET)
abbrev Ej:List AO:=
 [(mt 76 11),o1 77 (.len (.t 76)),o1 78 (.mv (ci 0))]
abbrev Ei:List AO:=
 [o1 79 (.bin .lss (.t 78) (.t 77))]
abbrev Eh:List AO:=
 [o1 80 (.ia 1 (.t 76) (.t 78)),o1 81 (.ld 1 false (.t 80)),
  (mt 17 81)]
abbrev Eg:List AO:=
 [o1 82 (.ld 1 false (.t 5)),
  (mt 83 8),o1 84 (.ia 1 (.t 82) (.t 83)),o1 85 (.ld 1 false (.t 84)),
  (mt 86 17),⟨none,none,.mo (.mu (.t 85) (.t 86) (.c (.b true)))⟩]
abbrev EI:AC:=
 (.seq (.reg Eh) (.reg Eg))
abbrev Ef:List AO:=
 [o1 87 (.bin .add (.t 78) (ci 1)),
  (mt 78 87)]
abbrev ES:AC:=
 (.seq (.reg Ei) (.seq (.cond (.t 79) .skip (.exit 10)) (.seq (.block 11 EI) (.reg Ef))))
abbrev EH:AC:=
 (.loop ES)
abbrev Ee:List AO:=
 [o1 88 (.ld 1 false (.t 7)),
  (mt 89 88),
  (o4 90 89 (.ld 1 false (.t 5))),
  (o4 91 89 (.mv (.t 8))),
  (o4 92 89 (.ia 1 (.t 90) (.t 91))),
  (o4 93 89 (.ld 1 false (.t 92))),⟨some 94,some (89,false),.mo (.ln (.t 93))⟩,
  (o4 95 89 (.mv (.t 10))),
  (o4 96 89 (.bin .gtr (.t 94) (.t 95))),o1 97 (.pick (.t 89) (.c (.b true)) (.t 96)),
  (o3 (.st 1 (.t 7) (.t 97)))]
abbrev EG:AC:=
 (.seq (.reg Ev) (.seq (.reg Eu) (.seq (.seq (.reg Et) (.block 6 EJ)) (.seq (.seq (.reg Ej) (.block 10 EH)) (.reg Ee)))))
abbrev ww:AC:=
 (.block 5 EG)
abbrev EF:AC:=
 (.rf (.t 36) 37 38 (.seq (.reg Ex) (.reg Ew)) ww)
abbrev EE:AC:=
 (.seq (.reg Ez) (.seq (.reg Ey) (.block 4 EF)))
abbrev Ed:List AO:=
 [o1 98 (.ld 1 false (.t 7))]
abbrev Ec:List AO:=
 [o1 7 (.al 4 [.b false]),
  (o3 (.st 1 (.t 7) (.t 98)))]
abbrev EP:AC:=
 (.seq (.seq (.reg EA) (.cond (.t 34) .skip (.exit 2))) (.seq (.block 3 EE) (.seq (.reg Ed) (.reg Ec))))
abbrev ED:AC:=
 (.loop EP)
abbrev EC:List (Nat×AO):=
 [(1,(o1 99 (.ld 1 false (.t 5)))),
  (2,(mt 2 99)),(1,(o1 100 (.ld 1 false (.t 4)))),
  (2,(mt 3 100))]
abbrev RD:AF:=⟨101,(.seq (.reg Mv) (.seq (.reg Mu) (.seq (.reg Mt) (.seq (.seq (.reg Ms) (.block 0 EO)) (.seq (.seq (.reg EB) (.block 2 ED)) (.seq (.mix EC) .ret)))))),[.mv (.t 2),.mv (.t 3)]⟩
theorem Mw:bE Try.prog (aE Try.prog 36) 36=some RD:=by kernel_rfl
/-! slices.Backward[[]api.RegInstr,api.RegInstr]-/
abbrev Mm:List AO:=
 [o1 1 (.bx 23 0 (.t 0)),o1 2 (.mv (.c .f0))]
abbrev Ml:List AO:=
 [o1 3 (.mf 87 [] [.t 1]),
  (mt 2 3)]
abbrev RC:AF:=⟨4,(.seq (.reg Mm) (.seq (.reg Ml) .ret)),[.mv (.t 2)]⟩
theorem Mn:bE Try.prog (aE Try.prog 67) 67=some RC:=by kernel_rfl
/-! maps.Keys[allocate.set,int,bool]-/
abbrev Mi:List AO:=
 [o1 1 (.bx 70 0 (.t 0)),o1 2 (.mv (.c .f0))]
abbrev Mh:List AO:=
 [o1 3 (.mf 71 [] [.t 1]),
  (mt 2 3)]
abbrev RB:AF:=⟨4,(.seq (.reg Mi) (.seq (.reg Mh) .ret)),[.mv (.t 2)]⟩
theorem Mj:bE Try.prog (aE Try.prog 38) 38=some RB:=by kernel_rfl
/-! allocate.Pressure-/
abbrev Md:List AO:=
 [o1 1 (.bx 25 0 (.t 0)),o1 2 (.mv (ci 0)),o1 3 (.mv (ci 0))]
abbrev Mc:List AO:=
 [o1 10 (.ld 4 true (.t 1)),
  (o2 11 11 [.t 10]),
  (mt 9 11),o1 12 (.ext 0 (.t 9)),o1 13 (.ext 1 (.t 9)),
  (mt 4 12),
  (mt 5 13)]
abbrev Mb:List AO:=
 [o1 6 (.mv (ci 0))]
abbrev Ma:List AO:=
 [(mt 14 4),o1 15 (.len (.t 14)),o1 16 (.mv (ci 0))]
abbrev L9:List AO:=
 [o1 17 (.bin .lss (.t 16) (.t 15))]
abbrev L8:List AO:=
 [o1 18 (.ia 1 (.t 14) (.t 16)),o1 19 (.ld 1 false (.t 18)),
  (mt 8 19)]
abbrev L7:List AO:=
 [(mt 20 6),
  (mt 21 8),o1 22 (.len (.t 21)),⟨some 23,none,.mo (.mx (.t 20) (.t 22))⟩,
  (mt 6 23)]
abbrev Mf:AC:=
 (.seq (.reg L8) (.reg L7))
abbrev L6:List AO:=
 [o1 24 (.bin .add (.t 16) (ci 1)),
  (mt 16 24)]
abbrev Mg:AC:=
 (.seq (.reg L9) (.seq (.cond (.t 17) .skip (.exit 0)) (.seq (.block 1 Mf) (.reg L6))))
abbrev Eb:AC:=
 (.loop Mg)
abbrev Ea:List AO:=
 [(mt 25 6),
  (mt 26 5),
  (mt 2 25),
  (mt 3 26)]
abbrev RA:AF:=⟨27,(.seq (.reg Md) (.seq (.reg Mc) (.seq (.reg Mb) (.seq (.seq (.reg Ma) (.block 0 Eb)) (.seq (.reg Ea) .ret))))),[.mv (.t 2),.mv (.t 3)]⟩
theorem Me:bE Try.prog (aE Try.prog 13) 13=some RA:=by kernel_rfl
/-! allocate.colors-/
abbrev L4:List AO:=
 [o1 2 (.mv (.c (.cv (.map none)))),o1 3 (.mv (ci 0))]
abbrev L3:List AO:=
 [(mt 14 0),
  (o2 15 74 [.t 14]),
  (mt 4 15)]
abbrev L2:List AO:=
 [⟨some 16,none,.mo (.mm)⟩,
  (mt 5 16)]
abbrev L1:List AO:=
 [o1 6 (.mv (ci 0))]
abbrev L0:List AO:=
 [(mt 17 0),
  (o2 18 52 [.t 17]),o1 19 (.len (.t 18)),o1 20 (.mv (ci 0))]
abbrev LZ:List AO:=
 [o1 21 (.bin .lss (.t 20) (.t 19))]
abbrev LY:List AO:=
 [o1 22 (.ia 1 (.t 18) (.t 20)),o1 23 (.ld 1 false (.t 22)),
  (mt 8 23)]
abbrev LX:List AO:=
 [⟨some 24,none,.mo (.mm)⟩,
  (mt 9 24)]
abbrev LW:List AO:=
 [(mt 25 4),
  (mt 26 8),⟨some 27,none,.mo (.lk (.cv (.map none)) false (.t 25) (.t 26))⟩,⟨some 28,none,.mo (.rg (.t 27))⟩]
abbrev LV:List AO:=
 [⟨some 29,none,.mo (.nx (.t 28))⟩,o1 30 (.ext 0 (.t 29))]
abbrev D1:List AO:=
 [⟨some 31,none,.mo (.en (.t 28))⟩,o1 32 (.ext 0 (.t 31)),
  (mt 10 32)]
abbrev DZ:List AO:=
 [(mt 34 5),
  (mt 35 10),⟨some 36,none,.mo (.lk (.n .i64 0) true (.t 34) (.t 35))⟩,
  (mt 33 36),o1 37 (.ext 0 (.t 33)),o1 38 (.ext 1 (.t 33)),
  (mt 11 37),
  (mt 12 38)]
abbrev DY:List AO:=
 [(mt 39 12)]
abbrev DX:List AO:=
 [(mt 40 9),
  (mt 41 11),⟨none,none,.mo (.mu (.t 40) (.t 41) (.c (.b true)))⟩]
abbrev D6:AC:=
 (.seq (.reg D1) (.seq (.reg DZ) (.seq (.reg DY) (.cond (.t 39) (.reg DX) .skip))))
abbrev D9:AC:=
 (.seq (.reg LV) (.seq (.cond (.t 30) .skip (.exit 2)) (.block 3 D6)))
abbrev D5:AC:=
 (.loop D9)
abbrev DW:List AO:=
 [o1 13 (.mv (ci 0))]
abbrev DV:List AO:=
 [(mt 42 9),
  (mt 43 13),⟨some 44,none,.mo (.lk (.b false) false (.t 42) (.t 43))⟩]
abbrev DU:List AO:=
 [(mt 45 13),o1 46 (.bin .add (.t 45) (ci 1)),
  (mt 13 46)]
abbrev D4:AC:=
 (.reg DU)
abbrev D8:AC:=
 (.seq (.seq (.reg DV) (.cond (.t 44) .skip (.exit 4))) (.block 5 D4))
abbrev wv:AC:=
 (.loop D8)
abbrev wu:List AO:=
 [(mt 47 5),
  (mt 48 8),
  (mt 49 13),⟨none,none,.mo (.mu (.t 47) (.t 48) (.t 49))⟩]
abbrev wt:List AO:=
 [(mt 50 6),
  (mt 51 13),o1 52 (.bin .add (.t 51) (ci 1)),⟨some 53,none,.mo (.mx (.t 50) (.t 52))⟩,
  (mt 6 53)]
abbrev D3:AC:=
 (.seq (.reg LY) (.seq (.reg LX) (.seq (.seq (.reg LW) (.block 2 D5)) (.seq (.reg DW) (.seq (.block 4 wv) (.seq (.reg wu) (.reg wt)))))))
abbrev DT:List AO:=
 [o1 54 (.bin .add (.t 20) (ci 1)),
  (mt 20 54)]
abbrev D7:AC:=
 (.seq (.reg LZ) (.seq (.cond (.t 21) .skip (.exit 0)) (.seq (.block 1 D3) (.reg DT))))
abbrev D2:AC:=
 (.loop D7)
abbrev DS:List AO:=
 [(mt 55 5),
  (mt 56 6),
  (mt 2 55),
  (mt 3 56)]
abbrev Rz:AF:=⟨57,(.seq (.reg L4) (.seq (.reg L3) (.seq (.reg L2) (.seq (.reg L1) (.seq (.seq (.reg L0) (.block 0 D2)) (.seq (.reg DS) .ret)))))),[.mv (.t 2),.mv (.t 3)]⟩
theorem L5:bE Try.prog (aE Try.prog 42) 42=some Rz:=by kernel_rfl
/-! compactorref25.Few-/
abbrev LS:List AO:=
 [o1 1 (.bx 25 0 (.t 0)),o1 2 (.mv (.c (.b false)))]
abbrev LR:List AO:=
 [o1 3 (.ld 4 true (.t 1)),
  (o2 4 33 [.t 3]),
  (mt 5 4),
  (o5 6 5 (.fa 1 (.t 1))),
  (o5 7 5 (.ld 1 false (.t 6))),
  (o5 8 5 (.bin .leq (.t 7) (ci 60))),
  (o5 9 5 (.mv (.t 8))),
  (o4 10 9 (.fa 1 (.t 1))),
  (o4 11 9 (.ld 1 false (.t 10))),
  (o4 12 9 (.bin .gtr (.t 11) (ci 1024))),
  (o5 13 5 (.pick (.t 9) (.c (.b true)) (.t 12))),o1 14 (.pick (.t 5) (.t 13) (.c (.b false))),
  (mt 2 14)]
abbrev Rm:AF:=⟨15,(.seq (.reg LS) (.seq (.reg LR) .ret)),[.mv (.t 2)]⟩
theorem LU:bE Try.prog (aE Try.prog 9) 9=some Rm:=by kernel_rfl
/-! compactorref25.Live-/
abbrev LP:List AO:=
 [o1 1 (.bx 25 0 (.t 0)),o1 2 (.mv (.c .sl0)),o1 3 (.mv (ci 0))]
abbrev LO:List AO:=
 [o1 10 (.ld 4 true (.t 1)),
  (o2 11 39 [.t 10]),
  (mt 9 11),o1 12 (.ext 0 (.t 9)),o1 13 (.ext 1 (.t 9)),
  (mt 4 12),
  (mt 5 13)]
abbrev LN:List AO:=
 [(mt 14 5),o1 15 (.bin .neq (.t 14) (ci 0))]
abbrev LM:List AO:=
 [(mt 16 5),o1 2 (.mv (.c .sl0)),
  (mt 3 16)]
abbrev LL:List AO:=
 [o1 17 (.ld 4 true (.t 1)),
  (o2 18 40 [.t 17]),
  (mt 6 18)]
abbrev LK:List AO:=
 [o1 7 (.mv (.c .sl0))]
abbrev LJ:List AO:=
 [o1 8 (.mv (ci 0))]
abbrev LI:List AO:=
 [(mt 19 8),
  (mt 20 6),o1 21 (.len (.t 20)),o1 22 (.bin .lss (.t 19) (.t 21))]
abbrev LH:List AO:=
 [(mt 25 7),
  (mt 26 6),
  (mt 27 8),o1 28 (.ia 1 (.t 26) (.t 27)),o1 29 (.ld 1 false (.t 28)),
  (o2 30 41 [.t 29]),o1 31 (.bs 39 1 1 [.sl0] [(0,1,(.t 30))]),o1 32 (.app 39 1 24 (.t 25) (.t 31)),
  (mt 7 32)]
abbrev LQ:AC:=
 (.reg LH)
abbrev DN:List AO:=
 [(mt 23 8),o1 24 (.bin .add (.t 23) (ci 1)),
  (mt 8 24)]
abbrev DQ:AC:=
 (.seq (.seq (.reg LI) (.cond (.t 22) .skip (.exit 0))) (.seq (.block 1 LQ) (.reg DN)))
abbrev DP:AC:=
 (.loop DQ)
abbrev DM:List AO:=
 [(mt 33 7),
  (mt 2 33),o1 3 (.mv (ci 0))]
abbrev Rl:AF:=⟨34,(.seq (.reg LP) (.seq (.seq (.reg LO) (.seq (.reg LN) (.cond (.t 15) (.seq (.reg LM) .ret) .skip))) (.seq (.reg LL) (.seq (.reg LK) (.seq (.seq (.reg LJ) (.block 0 DP)) (.seq (.reg DM) .ret)))))),[.mv (.t 2),.mv (.t 3)]⟩
theorem Ce:bE Try.prog (aE Try.prog 12) 12=some Rl:=by kernel_rfl
/-! compactorref25.Pressure-/
abbrev LF:List AO:=
 [o1 1 (.bx 25 0 (.t 0)),o1 2 (.mv (ci 0)),o1 3 (.mv (ci 0))]
abbrev LD:List AO:=
 [o1 9 (.ld 4 true (.t 1)),
  (o2 10 12 [.t 9]),
  (mt 8 10),o1 11 (.ext 0 (.t 8)),o1 12 (.ext 1 (.t 8)),
  (mt 4 11),
  (mt 5 12)]
abbrev LC:List AO:=
 [(mt 13 5),o1 14 (.bin .neq (.t 13) (ci 0))]
abbrev LB:List AO:=
 [(mt 15 5),o1 2 (.mv (ci 0)),
  (mt 3 15)]
abbrev LA:List AO:=
 [o1 6 (.mv (ci 0))]
abbrev Lz:List AO:=
 [o1 7 (.mv (ci 0))]
abbrev Ly:List AO:=
 [(mt 16 7),
  (mt 17 4),o1 18 (.len (.t 17)),o1 19 (.bin .lss (.t 16) (.t 18))]
abbrev Lx:List AO:=
 [(mt 22 6),
  (mt 23 4),
  (mt 24 7),o1 25 (.ia 1 (.t 23) (.t 24)),o1 26 (.ld 1 false (.t 25)),o1 27 (.len (.t 26)),⟨some 28,none,.mo (.mx (.t 22) (.t 27))⟩,
  (mt 6 28)]
abbrev LG:AC:=
 (.reg Lx)
abbrev Lw:List AO:=
 [(mt 20 7),o1 21 (.bin .add (.t 20) (ci 1)),
  (mt 7 21)]
abbrev DL:AC:=
 (.seq (.seq (.reg Ly) (.cond (.t 19) .skip (.exit 0))) (.seq (.block 1 LG) (.reg Lw)))
abbrev DK:AC:=
 (.loop DL)
abbrev DJ:List AO:=
 [(mt 29 6),
  (mt 2 29),o1 3 (.mv (ci 0))]
abbrev Rk:AF:=⟨30,(.seq (.reg LF) (.seq (.reg LD) (.seq (.seq (.reg LC) (.cond (.t 14) (.seq (.reg LB) .ret) .skip)) (.seq (.reg LA) (.seq (.seq (.reg Lz) (.block 0 DK)) (.seq (.reg DJ) .ret)))))),[.mv (.t 2),.mv (.t 3)]⟩
theorem Cd:bE Try.prog (aE Try.prog 14) 14=some Rk:=by kernel_rfl
/-! compactorref25.Allocate-/
/-! compactorref25.Compact-/
abbrev Lu:List AO:=
 [o1 1 (.bx 25 0 (.t 0)),o1 2 (.al 25 [.sl0,.n .i64 0,.n .i64 0,.sl0]),o1 3 (.mv (ci 0))]
abbrev Ls:List AO:=
 [o1 11 (.ld 4 true (.t 1)),
  (o2 12 39 [.t 11]),
  (mt 10 12),o1 13 (.ext 0 (.t 10)),o1 14 (.ext 1 (.t 10)),
  (mt 4 13),
  (mt 5 14)]
abbrev Lr:List AO:=
 [(mt 15 5),o1 16 (.bin .neq (.t 15) (ci 0))]
abbrev Lq:List AO:=
 [o1 17 (.bd [.sl0,.n .i64 0,.n .i64 0,.sl0] []),
  (mt 18 5),
  (o3 (.st 4 (.t 2) (.t 17))),
  (mt 3 18)]
abbrev Lp:List AO:=
 [o1 19 (.ld 4 true (.t 1)),
  (o2 20 53 [.t 19]),
  (mt 6 20)]
abbrev Lo:List AO:=
 [o1 7 (.mv (.c .sl0))]
abbrev Ln:List AO:=
 [o1 8 (.mv (ci 0))]
abbrev Lm:List AO:=
 [o1 9 (.mv (ci 0))]
abbrev Ll:List AO:=
 [(mt 21 9),
  (mt 22 6),o1 23 (.len (.t 22)),o1 24 (.bin .lss (.t 21) (.t 23))]
abbrev Lk:List AO:=
 [(mt 27 7),
  (mt 28 8),o1 29 (.bs 3 1 1 [.n .i64 0] [(0,1,(.t 28))]),o1 30 (.app 3 1 8 (.t 27) (.t 29)),
  (mt 7 30)]
abbrev DF:List AO:=
 [(mt 31 6),
  (mt 32 9),o1 33 (.ia 1 (.t 31) (.t 32)),o1 34 (.ld 1 false (.t 33))]
abbrev DE:List AO:=
 [(mt 35 8),o1 36 (.bin .add (.t 35) (ci 1)),
  (mt 8 36)]
abbrev DH:AC:=
 (.seq (.reg Lk) (.seq (.reg DF) (.cond (.t 34) (.reg DE) .skip)))
abbrev DD:List AO:=
 [(mt 25 9),o1 26 (.bin .add (.t 25) (ci 1)),
  (mt 9 26)]
abbrev DI:AC:=
 (.seq (.seq (.reg Ll) (.cond (.t 24) .skip (.exit 0))) (.seq (.block 1 DH) (.reg DD)))
abbrev DG:AC:=
 (.loop DI)
abbrev DC:List AO:=
 [o1 37 (.ld 4 true (.t 1)),
  (mt 38 7),
  (mt 39 8),
  (o2 40 48 [.t 37,.t 38,.t 39]),
  (o3 (.st 4 (.t 2) (.t 40))),o1 3 (.mv (ci 0))]
abbrev Rj:AF:=⟨41,(.seq (.reg Lu) (.seq (.seq (.reg Ls) (.seq (.reg Lr) (.cond (.t 16) (.seq (.reg Lq) .ret) .skip))) (.seq (.reg Lp) (.seq (.reg Lo) (.seq (.reg Ln) (.seq (.seq (.reg Lm) (.block 0 DG)) (.seq (.reg DC) .ret))))))),[.ld 4 true (.t 2),.mv (.t 3)]⟩
theorem Cc:bE Try.prog (aE Try.prog 21) 21=some Rj:=by kernel_rfl
/-! compactorref25.live-/
abbrev Lg:List AO:=
 [o1 1 (.bx 25 0 (.t 0)),o1 2 (.mv (.c .sl0))]
abbrev Lf:List AO:=
 [o1 18 (.fa 3 (.t 1)),o1 19 (.ld 1 false (.t 18)),
  (o2 20 23 [.t 19]),
  (mt 17 20),o1 21 (.ext 0 (.t 17)),o1 22 (.ext 1 (.t 17)),o1 23 (.ext 2 (.t 17)),
  (mt 3 21),
  (mt 4 22),
  (mt 5 23)]
abbrev Ld:List AO:=
 [o1 24 (.fa 3 (.t 1)),o1 25 (.ld 1 false (.t 24)),o1 26 (.len (.t 25)),
  (mt 6 26)]
abbrev Lc:List AO:=
 [o1 7 (.mv (.c .sl0))]
abbrev Lb:List AO:=
 [o1 8 (.mv (ci 0))]
abbrev La:List AO:=
 [(mt 27 8),
  (mt 28 6),o1 29 (.bin .leq (.t 27) (.t 28))]
abbrev K9:List AO:=
 [(mt 32 7),o1 33 (.fa 1 (.t 1)),o1 34 (.ld 1 false (.t 33)),o1 35 (.ms 4 1 1 [.b false] (.t 34) (.t 34)),o1 36 (.bs 55 1 1 [.sl0] [(0,1,(.t 35))]),o1 37 (.app 55 1 24 (.t 32) (.t 36)),
  (mt 7 37)]
abbrev Li:AC:=
 (.reg K9)
abbrev K8:List AO:=
 [(mt 30 8),o1 31 (.bin .add (.t 30) (ci 1)),
  (mt 8 31)]
abbrev Lj:AC:=
 (.seq (.seq (.reg La) (.cond (.t 29) .skip (.exit 0))) (.seq (.block 1 Li) (.reg K8)))
abbrev Dx:AC:=
 (.loop Lj)
abbrev Dp:List AO:=
 [o1 9 (.mv (.c (.b true)))]
abbrev Dn:List AO:=
 [(mt 38 9)]
abbrev Dm:List AO:=
 [o1 9 (.mv (.c (.b false)))]
abbrev Dl:List AO:=
 [(mt 39 6),o1 40 (.bin .sub (.t 39) (ci 1)),
  (mt 10 40)]
abbrev Dk:List AO:=
 [(mt 41 10),o1 42 (.bin .geq (.t 41) (ci 0))]
abbrev Dj:List AO:=
 [o1 46 (.fa 3 (.t 1)),o1 47 (.ld 1 false (.t 46)),
  (mt 48 10),o1 49 (.ia 5 (.t 47) (.t 48)),o1 50 (.ld 5 true (.t 49)),
  (o2 51 57 [.t 50]),
  (mt 45 51),o1 52 (.ext 0 (.t 45)),o1 53 (.ext 1 (.t 45)),
  (mt 11 52),
  (mt 12 53)]
abbrev Di:List AO:=
 [o1 54 (.fa 3 (.t 1)),o1 55 (.ld 1 false (.t 54)),
  (mt 56 3),
  (mt 57 10),
  (o2 58 59 [.t 55,.t 56,.t 57]),
  (mt 13 58)]
abbrev Dh:List AO:=
 [o1 14 (.mv (ci 0))]
abbrev Dg:List AO:=
 [(mt 59 14),o1 60 (.fa 1 (.t 1)),o1 61 (.ld 1 false (.t 60)),o1 62 (.bin .lss (.t 59) (.t 61))]
abbrev Df:List AO:=
 [(mt 65 11),
  (mt 66 14),
  (o2 67 73 [.t 65,.t 66]),
  (mt 15 67)]
abbrev De:List AO:=
 [o1 16 (.mv (ci 0))]
abbrev Dd:List AO:=
 [(mt 68 16),
  (mt 69 13),o1 70 (.len (.t 69)),o1 71 (.bin .lss (.t 68) (.t 70))]
abbrev Dc:List AO:=
 [(mt 74 15),
  (mt 75 74),
  (o4 76 75 (.mv (.t 7))),
  (o4 77 75 (.mv (.t 13))),
  (o4 78 75 (.mv (.t 16))),
  (o4 79 75 (.ia 1 (.t 77) (.t 78))),
  (o4 80 75 (.ld 1 false (.t 79))),
  (o4 81 75 (.ia 1 (.t 76) (.t 80))),
  (o4 82 75 (.ld 1 false (.t 81))),
  (o4 83 75 (.mv (.t 14))),
  (o4 84 75 (.ia 1 (.t 82) (.t 83))),
  (o4 85 75 (.ld 1 false (.t 84))),
  (o4 86 75 (.mv (.t 85))),
  (o5 87 86 (.mv (.t 14))),
  (o5 88 86 (.mv (.t 12))),
  (o5 89 86 (.bin .neq (.t 87) (.t 88))),
  (o4 90 75 (.pick (.t 86) (.t 89) (.c (.b false)))),o1 91 (.pick (.t 75) (.c (.b true)) (.t 90)),
  (mt 15 91)]
abbrev Dw:AC:=
 (.reg Dc)
abbrev Db:List AO:=
 [(mt 72 16),o1 73 (.bin .add (.t 72) (ci 1)),
  (mt 16 73)]
abbrev DB:AC:=
 (.seq (.seq (.reg Dd) (.cond (.t 71) .skip (.exit 8))) (.seq (.block 9 Dw) (.reg Db)))
abbrev Dv:AC:=
 (.loop DB)
abbrev Da:List AO:=
 [(mt 92 15),
  (mt 93 92),
  (o5 94 93 (.mv (.t 7))),
  (o5 95 93 (.mv (.t 10))),
  (o5 96 93 (.ia 1 (.t 94) (.t 95))),
  (o5 97 93 (.ld 1 false (.t 96))),
  (o5 98 93 (.mv (.t 14))),
  (o5 99 93 (.ia 1 (.t 97) (.t 98))),
  (o5 100 93 (.ld 1 false (.t 99))),
  (o5 101 93 (.un .not (.t 100))),o1 102 (.pick (.t 93) (.t 101) (.c (.b false)))]
abbrev C9:List AO:=
 [(mt 103 7),
  (mt 104 10),o1 105 (.ia 1 (.t 103) (.t 104)),o1 106 (.ld 1 false (.t 105)),
  (mt 107 14),o1 108 (.ia 1 (.t 106) (.t 107)),
  (o3 (.st 1 (.t 108) (.c (.b true))))]
abbrev C8:List AO:=
 [o1 9 (.mv (.c (.b true)))]
abbrev ws:AC:=
 (.seq (.reg Df) (.seq (.seq (.reg De) (.block 8 Dv)) (.seq (.reg Da) (.cond (.t 102) (.seq (.reg C9) (.reg C8)) .skip))))
abbrev C7:List AO:=
 [(mt 63 14),o1 64 (.bin .add (.t 63) (ci 1)),
  (mt 14 64)]
abbrev DA:AC:=
 (.seq (.seq (.reg Dg) (.cond (.t 62) .skip (.exit 6))) (.seq (.block 7 ws) (.reg C7)))
abbrev Du:AC:=
 (.loop DA)
abbrev Dt:AC:=
 (.seq (.reg Dj) (.seq (.reg Di) (.seq (.reg Dh) (.block 6 Du))))
abbrev C6:List AO:=
 [(mt 43 10),o1 44 (.bin .sub (.t 43) (ci 1)),
  (mt 10 44)]
abbrev Dz:AC:=
 (.seq (.seq (.reg Dk) (.cond (.t 42) .skip (.exit 4))) (.seq (.block 5 Dt) (.reg C6)))
abbrev Ds:AC:=
 (.loop Dz)
abbrev Dr:AC:=
 (.seq (.reg Dm) (.seq (.reg Dl) (.block 4 Ds)))
abbrev Dy:AC:=
 (.seq (.seq (.reg Dn) (.cond (.t 38) .skip (.exit 2))) (.block 3 Dr))
abbrev Dq:AC:=
 (.loop Dy)
abbrev C5:List AO:=
 [(mt 109 7),
  (mt 2 109)]
abbrev Ri:AF:=⟨110,(.seq (.reg Lg) (.seq (.reg Lf) (.seq (.reg Ld) (.seq (.reg Lc) (.seq (.seq (.reg Lb) (.block 0 Dx)) (.seq (.reg Dp) (.seq (.block 2 Dq) (.seq (.reg C5) .ret)))))))),[.mv (.t 2)]⟩
theorem Lh:bE Try.prog (aE Try.prog 40) 40=some Ri:=by kernel_rfl
/-! compactorref25.members-/
abbrev K3:List AO:=
 [o1 2 (.mv (.c .sl0))]
abbrev K2:List AO:=
 [o1 3 (.mv (.c .sl0))]
abbrev K1:List AO:=
 [o1 4 (.mv (ci 0))]
abbrev KZ:List AO:=
 [(mt 5 4),
  (mt 6 0),o1 7 (.len (.t 6)),o1 8 (.bin .lss (.t 5) (.t 7))]
abbrev KY:List AO:=
 [(mt 11 0),
  (mt 12 4),o1 13 (.ia 1 (.t 11) (.t 12)),o1 14 (.ld 1 false (.t 13))]
abbrev KX:List AO:=
 [(mt 15 3),
  (mt 16 4),o1 17 (.bs 3 1 1 [.n .i64 0] [(0,1,(.t 16))]),o1 18 (.app 3 1 8 (.t 15) (.t 17)),
  (mt 3 18)]
abbrev K6:AC:=
 (.seq (.reg KY) (.cond (.t 14) (.reg KX) .skip))
abbrev KW:List AO:=
 [(mt 9 4),o1 10 (.bin .add (.t 9) (ci 1)),
  (mt 4 10)]
abbrev K7:AC:=
 (.seq (.seq (.reg KZ) (.cond (.t 8) .skip (.exit 0))) (.seq (.block 1 K6) (.reg KW)))
abbrev K5:AC:=
 (.loop K7)
abbrev C4:List AO:=
 [(mt 19 3),
  (mt 2 19)]
abbrev Rh:AF:=⟨20,(.seq (.reg K3) (.seq (.reg K2) (.seq (.seq (.reg K1) (.block 0 K5)) (.seq (.reg C4) .ret)))),[.mv (.t 2)]⟩
theorem K4:bE Try.prog (aE Try.prog 41) 41=some Rh:=by kernel_rfl
/-! compactorref25.Colors-/
/-! compactorref25.replace-/
abbrev KP:List AO:=
 [o1 3 (.bx 25 0 (.t 0)),o1 6 (.al 25 [.sl0,.n .i64 0,.n .i64 0,.sl0])]
abbrev KO:List AO:=
 [o1 9 (.ld 4 true (.t 3)),
  (o2 10 49 [.t 9]),o1 7 (.al 25 [.sl0,.n .i64 0,.n .i64 0,.sl0]),
  (o3 (.st 4 (.t 7) (.t 10)))]
abbrev KN:List AO:=
 [(mt 11 2),o1 12 (.fa 1 (.t 7)),
  (o3 (.st 1 (.t 12) (.t 11)))]
abbrev KM:List AO:=
 [o1 8 (.mv (ci 0))]
abbrev KL:List AO:=
 [(mt 13 8),o1 14 (.fa 3 (.t 7)),o1 15 (.ld 1 false (.t 14)),o1 16 (.len (.t 15)),o1 17 (.bin .lss (.t 13) (.t 16))]
abbrev KR:List (Nat×AO):=
 [(2,(o1 20 (.fa 3 (.t 7)))),
  (2,(mt 22 8)),(2,(o1 23 (.fa 3 (.t 7)))),
  (2,(mt 25 8)),
  (2,(mt 28 1)),(1,(o1 21 (.ld 1 false (.t 20)))),(1,(o1 24 (.ld 1 false (.t 23)))),(2,(o1 26 (.ia 5 (.t 24) (.t 25)))),(1,(o1 27 (.ld 5 true (.t 26)))),
  (0,(o2 29 50 [.t 27,.t 28])),(2,(o1 30 (.ia 5 (.t 21) (.t 22)))),
  (3,(o3 (.st 5 (.t 30) (.t 29))))]
abbrev KU:AC:=
 (.mix KR)
abbrev KK:List AO:=
 [(mt 18 8),o1 19 (.bin .add (.t 18) (ci 1)),
  (mt 8 19)]
abbrev KV:AC:=
 (.seq (.seq (.reg KL) (.cond (.t 17) .skip (.exit 0))) (.seq (.block 1 KU) (.reg KK)))
abbrev KS:AC:=
 (.loop KV)
abbrev C3:List AO:=
 [o1 31 (.ld 4 true (.t 7)),
  (o3 (.st 4 (.t 6) (.t 31)))]
abbrev Rg:AF:=⟨32,(.seq (.reg KP) (.seq (.reg KO) (.seq (.reg KN) (.seq (.seq (.reg KM) (.block 0 KS)) (.seq (.reg C3) .ret))))),[.ld 4 true (.t 6)]⟩
theorem KQ:bE Try.prog (aE Try.prog 48) 48=some Rg:=by kernel_rfl
/-! compactorref25.renamed-/
abbrev KH:List AO:=
 [o1 2 (.bx 60 0 (.t 0)),o1 4 (.al 60 [.n .i64 0,.n .i64 0,.n .i64 0,.n .i64 0,.n .u32 0])]
abbrev KJ:List (Nat×AO):=
 [(2,(o1 5 (.fa 0 (.t 2)))),
  (2,(mt 7 1)),(2,(o1 8 (.fa 1 (.t 2)))),
  (2,(mt 11 1)),(2,(o1 12 (.fa 2 (.t 2)))),
  (2,(mt 15 1)),(2,(o1 16 (.fa 3 (.t 2)))),(2,(o1 19 (.fa 4 (.t 2)))),(1,(o1 6 (.ld 1 false (.t 5)))),(1,(o1 9 (.ld 1 false (.t 8)))),(1,(o1 13 (.ld 1 false (.t 12)))),(1,(o1 17 (.ld 1 false (.t 16)))),(1,(o1 20 (.ld 1 false (.t 19)))),
  (0,(o2 10 80 [.t 7,.t 9])),
  (0,(o2 14 80 [.t 11,.t 13])),
  (0,(o2 18 80 [.t 15,.t 17])),(2,(o1 21 (.bd [.n .i64 0,.n .i64 0,.n .i64 0,.n .i64 0,.n .u32 0] [(0,1,(.t 6)),(1,1,(.t 10)),(2,1,(.t 14)),(3,1,(.t 18)),(4,1,(.t 20))]))),
  (3,(o3 (.st 5 (.t 4) (.t 21))))]
abbrev Rf:AF:=⟨22,(.seq (.reg KH) (.seq (.mix KJ) .ret)),[.ld 5 true (.t 4)]⟩
theorem KI:bE Try.prog (aE Try.prog 50) 50=some Rf:=by kernel_rfl
/-! compactorref25.occurring-/
abbrev KE:List AO:=
 [o1 1 (.bx 25 0 (.t 0)),o1 2 (.mv (.c .sl0))]
abbrev KD:List AO:=
 [o1 8 (.fa 1 (.t 1)),o1 9 (.ld 1 false (.t 8)),o1 10 (.ms 4 1 1 [.b false] (.t 9) (.t 9)),
  (mt 3 10)]
abbrev KC:List AO:=
 [o1 4 (.mv (ci 0))]
abbrev KB:List AO:=
 [(mt 11 4),o1 12 (.fa 3 (.t 1)),o1 13 (.ld 1 false (.t 12)),o1 14 (.len (.t 13)),o1 15 (.bin .lss (.t 11) (.t 14))]
abbrev KA:List AO:=
 [o1 19 (.fa 3 (.t 1)),o1 20 (.ld 1 false (.t 19)),
  (mt 21 4),o1 22 (.ia 5 (.t 20) (.t 21)),o1 23 (.ld 5 true (.t 22)),
  (o2 24 57 [.t 23]),
  (mt 18 24),o1 25 (.ext 0 (.t 18)),o1 26 (.ext 1 (.t 18)),
  (mt 5 25),
  (mt 6 26)]
abbrev Kz:List AO:=
 [o1 7 (.mv (ci 0))]
abbrev Ky:List AO:=
 [(mt 27 7),
  (mt 28 5),o1 29 (.len (.t 28)),o1 30 (.bin .lss (.t 27) (.t 29))]
abbrev Kx:List AO:=
 [(mt 33 3),
  (mt 34 5),
  (mt 35 7),o1 36 (.ia 1 (.t 34) (.t 35)),o1 37 (.ld 1 false (.t 36)),o1 38 (.ia 1 (.t 33) (.t 37)),
  (o3 (.st 1 (.t 38) (.c (.b true))))]
abbrev KG:AC:=
 (.reg Kx)
abbrev Kw:List AO:=
 [(mt 31 7),o1 32 (.bin .add (.t 31) (ci 1)),
  (mt 7 32)]
abbrev C2:AC:=
 (.seq (.seq (.reg Ky) (.cond (.t 30) .skip (.exit 2))) (.seq (.block 3 KG) (.reg Kw)))
abbrev C0:AC:=
 (.loop C2)
abbrev CX:List AO:=
 [(mt 39 6),o1 40 (.bin .geq (.t 39) (ci 0))]
abbrev CW:List AO:=
 [(mt 41 3),
  (mt 42 6),o1 43 (.ia 1 (.t 41) (.t 42)),
  (o3 (.st 1 (.t 43) (.c (.b true))))]
abbrev CZ:AC:=
 (.seq (.reg KA) (.seq (.seq (.reg Kz) (.block 2 C0)) (.seq (.reg CX) (.cond (.t 40) (.reg CW) .skip))))
abbrev CV:List AO:=
 [(mt 16 4),o1 17 (.bin .add (.t 16) (ci 1)),
  (mt 4 17)]
abbrev C1:AC:=
 (.seq (.seq (.reg KB) (.cond (.t 15) .skip (.exit 0))) (.seq (.block 1 CZ) (.reg CV)))
abbrev CY:AC:=
 (.loop C1)
abbrev CU:List AO:=
 [(mt 44 3),
  (mt 2 44)]
abbrev Re:AF:=⟨45,(.seq (.reg KE) (.seq (.reg KD) (.seq (.seq (.reg KC) (.block 0 CY)) (.seq (.reg CU) .ret)))),[.mv (.t 2)]⟩
theorem KF:bE Try.prog (aE Try.prog 53) 53=some Re:=by kernel_rfl
/-! compactorref25.Successors-/
abbrev Ku:List AO:=
 [o1 6 (.mv (.c .sl0))]
abbrev Kt:List AO:=
 [(mt 8 1),
  (mt 9 2),o1 10 (.ia 1 (.t 8) (.t 9)),o1 11 (.ld 1 false (.t 10)),
  (mt 7 11)]
abbrev Ks:List AO:=
 [(mt 12 0),
  (mt 13 2),o1 14 (.ia 5 (.t 12) (.t 13)),o1 15 (.fa 0 (.t 14)),o1 16 (.ld 1 false (.t 15))]
abbrev Kr:List AO:=
 [o1 18 (.bin .eql (.t 16) (ci 27)),
  (mt 17 18)]
abbrev Kq:List AO:=
 [o1 19 (.bin .eql (.t 16) (ci 29)),
  (mt 17 19)]
abbrev Kp:List AO:=
 [o1 20 (.bin .eql (.t 16) (ci 30)),
  (mt 17 20)]
abbrev Ko:List AO:=
 [(mt 21 2),o1 22 (.bin .add (.t 21) (ci 1)),
  (mt 23 7),o1 24 (.bin .add (.t 23) (ci 1)),o1 25 (.bs 3 1 2 [.n .i64 0,.n .i64 0] [(0,1,(.t 22)),(1,1,(.t 24))]),
  (mt 6 25)]
abbrev Kn:List AO:=
 [o1 27 (.bin .eql (.t 16) (ci 28)),
  (mt 26 27)]
abbrev Km:List AO:=
 [(mt 28 7),o1 29 (.bin .add (.t 28) (ci 1)),o1 30 (.bs 3 1 1 [.n .i64 0] [(0,1,(.t 29))]),
  (mt 6 30)]
abbrev Kl:List AO:=
 [o1 32 (.bin .eql (.t 16) (ci 31)),
  (mt 31 32)]
abbrev CS:List AO:=
 [(mt 33 0),
  (mt 34 7),o1 35 (.ia 5 (.t 33) (.t 34)),o1 36 (.fa 0 (.t 35)),o1 37 (.ld 1 false (.t 36)),o1 38 (.bin .eql (.t 37) (ci 29))]
abbrev CR:List AO:=
 [(mt 39 7),o1 40 (.bin .add (.t 39) (ci 1)),
  (mt 41 2),o1 42 (.bin .add (.t 41) (ci 1)),o1 43 (.bs 3 1 2 [.n .i64 0,.n .i64 0] [(0,1,(.t 40)),(1,1,(.t 42))]),
  (mt 6 43)]
abbrev CT:AC:=
 (.seq (.seq (.reg Kr) (.cond (.t 17) .skip (.seq (.reg Kq) (.cond (.t 17) .skip (.reg Kp))))) (.cond (.t 17) (.seq (.reg Ko) .ret) (.seq (.reg Kn) (.cond (.t 26) (.seq (.reg Km) .ret) (.seq (.reg Kl) (.cond (.t 31) (.seq (.reg CS) (.cond (.t 38) (.seq (.reg CR) .ret) .skip)) .skip))))))
abbrev CQ:List AO:=
 [(mt 44 2),o1 45 (.bin .add (.t 44) (ci 1)),o1 46 (.bs 3 1 1 [.n .i64 0] [(0,1,(.t 45))]),
  (mt 6 46)]
abbrev Rd:AF:=⟨47,(.seq (.reg Ku) (.seq (.reg Kt) (.seq (.seq (.reg Ks) (.block 0 CT)) (.seq (.reg CQ) .ret)))),[.mv (.t 6)]⟩
theorem Kv:bE Try.prog (aE Try.prog 59) 59=some Rd:=by kernel_rfl
/-! compactorref25.has-/
abbrev Kg:List AO:=
 [o1 4 (.mv (.c (.b false)))]
abbrev Kf:List AO:=
 [o1 5 (.mv (ci 0))]
abbrev Ke:List AO:=
 [(mt 6 5),
  (mt 7 0),o1 8 (.len (.t 7)),o1 9 (.bin .lss (.t 6) (.t 8))]
abbrev Kd:List AO:=
 [(mt 12 0),
  (mt 13 5),o1 14 (.ia 1 (.t 12) (.t 13)),o1 15 (.ld 1 false (.t 14)),
  (mt 16 1),o1 17 (.bin .eql (.t 15) (.t 16))]
abbrev Kc:List AO:=
 [o1 4 (.mv (.c (.b true)))]
abbrev Kj:AC:=
 (.seq (.reg Kd) (.cond (.t 17) (.seq (.reg Kc) .ret) .skip))
abbrev Ka:List AO:=
 [(mt 10 5),o1 11 (.bin .add (.t 10) (ci 1)),
  (mt 5 11)]
abbrev Kk:AC:=
 (.seq (.seq (.reg Ke) (.cond (.t 9) .skip (.exit 0))) (.seq (.block 1 Kj) (.reg Ka)))
abbrev Ki:AC:=
 (.loop Kk)
abbrev J9:List AO:=
 [o1 4 (.mv (.c (.b false)))]
abbrev Q7:AF:=⟨18,(.seq (.reg Kg) (.seq (.seq (.reg Kf) (.block 0 Ki)) (.seq (.reg J9) .ret))),[.mv (.t 4)]⟩
theorem Kh:bE Try.prog (aE Try.prog 73) 73=some Q7:=by kernel_rfl
/-! compactorref25.interfering-/
/-! compactorref25.rename-/
abbrev J7:List AO:=
 [o1 4 (.mv (ci 0))]
abbrev J6:List AO:=
 [(mt 5 1),o1 6 (.bin .lss (.t 5) (ci 0))]
abbrev J5:List AO:=
 [o1 4 (.mv (.c (.n .i64 (-1))))]
abbrev J4:List AO:=
 [(mt 7 0),
  (mt 8 1),o1 9 (.ia 1 (.t 7) (.t 8)),o1 10 (.ld 1 false (.t 9)),
  (mt 4 10)]
abbrev Q6:AF:=⟨11,(.seq (.reg J7) (.seq (.seq (.reg J6) (.cond (.t 6) (.seq (.reg J5) .ret) .skip)) (.seq (.reg J4) .ret))),[.mv (.t 4)]⟩
theorem J8:bE Try.prog (aE Try.prog 80) 80=some Q6:=by kernel_rfl
/-! compactorlaw25.push-/
abbrev J2:List AO:=
 [o1 2 (.al 60 [.n .i64 0,.n .i64 0,.n .i64 0,.n .i64 0,.n .u32 0])]
abbrev J1:List AO:=
 [(mt 3 0),
  (mt 4 0),o1 5 (.bin .add (.t 4) (ci 5)),o1 6 (.cvi .u32 (.t 5)),o1 7 (.bd [.n .i64 0,.n .i64 0,.n .i64 0,.n .i64 0,.n .u32 0] [(0,1,(ci 0)),(1,1,(.t 3)),(2,1,(.c (.n .i64 (-1)))),(3,1,(.c (.n .i64 (-1)))),(4,1,(.t 6))]),
  (o3 (.st 5 (.t 2) (.t 7)))]
abbrev Q5:AF:=⟨8,(.seq (.reg J2) (.seq (.reg J1) .ret)),[.ld 5 true (.t 2)]⟩
theorem J3:bE Try.prog (aE Try.prog 34) 34=some Q5:=by kernel_rfl
/-! compactorlaw25.emit-/
abbrev JZ:List AO:=
 [o1 2 (.al 60 [.n .i64 0,.n .i64 0,.n .i64 0,.n .i64 0,.n .u32 0])]
abbrev JY:List AO:=
 [(mt 3 0),o1 4 (.bd [.n .i64 0,.n .i64 0,.n .i64 0,.n .i64 0,.n .u32 0] [(0,1,(ci 34)),(1,1,(.c (.n .i64 (-1)))),(2,1,(.t 3)),(3,1,(.c (.n .i64 (-1))))]),
  (o3 (.st 5 (.t 2) (.t 4)))]
abbrev Q4:AF:=⟨5,(.seq (.reg JZ) (.seq (.reg JY) .ret)),[.ld 5 true (.t 2)]⟩
theorem J0:bE Try.prog (aE Try.prog 35) 35=some Q4:=by kernel_rfl
/-! compactorlaw25.awake-/
abbrev JW:List AO:=
 [o1 0 (.mv (.c (.b false)))]
abbrev JV:List AO:=
 [(o2 13 34 [(ci 0)]),
  (o2 14 34 [(ci 1)]),o1 15 (.bd [.n .i64 0,.n .i64 0,.n .i64 0,.n .i64 0,.n .u32 0] [(0,1,(ci 8)),(1,1,(ci 2)),(2,1,(ci 0)),(3,1,(ci 1))]),
  (o2 16 35 [(ci 2)]),o1 17 (.bs 60 5 4 [.n .i64 0,.n .i64 0,.n .i64 0,.n .i64 0,.n .u32 0,.n .i64 0,.n .i64 0,.n .i64 0,.n .i64 0,.n .u32 0,.n .i64 0,.n .i64 0,.n .i64 0,.n .i64 0,.n .u32 0,.n .i64 0,.n .i64 0,.n .i64 0,.n .i64 0,.n .u32 0] [(0,5,(.t 13)),(5,5,(.t 14)),(10,5,(.t 15)),(15,5,(.t 16))]),o1 18 (.bd [.sl0,.n .i64 0,.n .i64 0,.sl0] [(1,1,(ci 3)),(3,1,(.t 17))]),o1 1 (.al 25 [.sl0,.n .i64 0,.n .i64 0,.sl0]),
  (o3 (.st 4 (.t 1) (.t 18)))]
abbrev JU:List AO:=
 [o1 20 (.ld 4 true (.t 1)),
  (o2 21 11 [.t 20]),
  (mt 19 21),o1 22 (.ext 0 (.t 19)),o1 23 (.ext 1 (.t 19)),
  (mt 2 22),
  (mt 3 23)]
abbrev JT:List AO:=
 [o1 25 (.ld 4 true (.t 1)),
  (o2 26 13 [.t 25]),
  (mt 24 26),o1 27 (.ext 0 (.t 24)),o1 28 (.ext 1 (.t 24)),
  (mt 4 27),
  (mt 5 28)]
abbrev JS:List AO:=
 [o1 30 (.ld 4 true (.t 1)),
  (o2 31 17 [.t 30,(ci 4)]),
  (mt 29 31),o1 32 (.ext 0 (.t 29)),o1 33 (.ext 1 (.t 29)),o1 6 (.al 25 [.sl0,.n .i64 0,.n .i64 0,.sl0]),
  (o3 (.st 4 (.t 6) (.t 32))),
  (mt 7 33)]
abbrev JR:List AO:=
 [(mt 34 3),
  (mt 35 5),o1 36 (.bin .add (.t 34) (.t 35)),
  (mt 37 7),o1 38 (.bin .add (.t 36) (.t 37)),o1 39 (.bin .neq (.t 38) (ci 0)),
  (mt 40 39),
  (o4 41 40 (.mv (.t 2))),
  (o4 42 40 (.bs 3 1 1 [.n .i64 0] [(0,1,(ci 0))])),
  (o4 43 40 (.bs 3 1 2 [.n .i64 0,.n .i64 0] [(0,1,(ci 0)),(1,1,(ci 1))])),
  (o4 44 40 (.bs 3 1 1 [.n .i64 0] [(0,1,(ci 2))])),
  (o4 45 40 (.bs 39 1 5 [.sl0,.sl0,.sl0,.sl0,.sl0] [(0,1,(.c .sl0)),(1,1,(.t 42)),(2,1,(.t 43)),(3,1,(.t 44)),(4,1,(.c .sl0))])),⟨some 46,some (40,false),.cl (.c (.f 15 [] [])) [.t 41,.t 45,(.c (.f 16 [] []))]⟩,
  (o4 47 40 (.un .not (.t 46))),o1 48 (.pick (.t 40) (.c (.b true)) (.t 47)),
  (mt 49 48),
  (o4 50 49 (.mv (.t 4))),
  (o4 51 49 (.bin .neq (.t 50) (ci 2))),o1 52 (.pick (.t 49) (.c (.b true)) (.t 51)),
  (mt 53 52),
  (o4 54 53 (.fa 1 (.t 6))),
  (o4 55 53 (.ld 1 false (.t 54))),
  (o4 56 53 (.bin .neq (.t 55) (ci 2))),o1 57 (.pick (.t 53) (.c (.b true)) (.t 56)),
  (mt 58 57),
  (o4 59 58 (.fa 3 (.t 6))),
  (o4 60 58 (.ld 1 false (.t 59))),
  (o4 61 58 (.len (.t 60))),
  (o4 62 58 (.bin .neq (.t 61) (ci 4))),o1 63 (.pick (.t 58) (.c (.b true)) (.t 62)),
  (mt 64 63),
  (o4 65 64 (.fa 3 (.t 6))),
  (o4 66 64 (.ld 1 false (.t 65))),
  (o4 67 64 (.ia 5 (.t 66) (ci 2))),
  (o4 68 64 (.fa 1 (.t 67))),
  (o4 69 64 (.ld 1 false (.t 68))),
  (o4 70 64 (.bin .neq (.t 69) (ci 0))),o1 71 (.pick (.t 64) (.c (.b true)) (.t 70))]
abbrev JQ:List AO:=
 [o1 0 (.mv (.c (.b false)))]
abbrev Cb:List AO:=
 [o1 72 (.bd [.sl0,.n .i64 0,.n .i64 0,.sl0] [(1,1,(ci 5))]),o1 8 (.al 25 [.sl0,.n .i64 0,.n .i64 0,.sl0]),
  (o3 (.st 4 (.t 8) (.t 72)))]
abbrev Ca:List AO:=
 [o1 73 (.mv (ci 0))]
abbrev JP:List AO:=
 [o1 74 (.bin .lss (.t 73) (ci 5))]
abbrev CJ:List AO:=
 [(mt 75 73),
  (mt 9 75)]
abbrev CL:List (Nat×AO):=
 [(2,(o1 76 (.fa 3 (.t 8)))),
  (2,(mt 78 9)),(1,(o1 77 (.ld 1 false (.t 76)))),
  (0,(o2 79 34 [.t 78])),(0,(o1 80 (.bs 60 5 1 [.n .i64 0,.n .i64 0,.n .i64 0,.n .i64 0,.n .u32 0] [(0,5,(.t 79))]))),(3,(o1 81 (.app 60 5 40 (.t 77) (.t 80)))),(2,(o1 82 (.fa 3 (.t 8)))),
  (3,(o3 (.st 1 (.t 82) (.t 81))))]
abbrev CN:AC:=
 (.seq (.reg CJ) (.mix CL))
abbrev CI:List AO:=
 [o1 83 (.bin .add (.t 73) (ci 1)),
  (mt 73 83)]
abbrev CP:AC:=
 (.seq (.reg JP) (.seq (.cond (.t 74) .skip (.exit 0)) (.seq (.block 1 CN) (.reg CI))))
abbrev wq:AC:=
 (.loop CP)
abbrev wl:List AO:=
 [o1 84 (.mv (ci 0))]
abbrev CH:List AO:=
 [o1 85 (.bin .lss (.t 84) (ci 5))]
abbrev CG:List AO:=
 [(mt 86 84),
  (mt 10 86)]
abbrev CK:List (Nat×AO):=
 [(2,(o1 87 (.fa 3 (.t 8)))),
  (2,(mt 89 10)),(1,(o1 88 (.ld 1 false (.t 87)))),
  (0,(o2 90 35 [.t 89])),(0,(o1 91 (.bs 60 5 1 [.n .i64 0,.n .i64 0,.n .i64 0,.n .i64 0,.n .u32 0] [(0,5,(.t 90))]))),(3,(o1 92 (.app 60 5 40 (.t 88) (.t 91)))),(2,(o1 93 (.fa 3 (.t 8)))),
  (3,(o3 (.st 1 (.t 93) (.t 92))))]
abbrev CM:AC:=
 (.seq (.reg CG) (.mix CK))
abbrev CF:List AO:=
 [o1 94 (.bin .add (.t 84) (ci 1)),
  (mt 84 94)]
abbrev CO:AC:=
 (.seq (.reg CH) (.seq (.cond (.t 85) .skip (.exit 2)) (.seq (.block 3 CM) (.reg CF))))
abbrev wo:AC:=
 (.loop CO)
abbrev wj:List AO:=
 [o1 96 (.ld 4 true (.t 8)),
  (o2 97 17 [.t 96,(ci 4)]),
  (mt 95 97),o1 98 (.ext 0 (.t 95)),o1 99 (.ext 1 (.t 95)),o1 11 (.al 25 [.sl0,.n .i64 0,.n .i64 0,.sl0]),
  (o3 (.st 4 (.t 11) (.t 98))),
  (mt 12 99)]
abbrev wm:List (Nat×AO):=
 [(2,(mt 100 12)),(2,(o1 101 (.bin .eql (.t 100) (ci 0)))),
  (2,(mt 102 101)),
  (2,(o5 103 102 (.fa 1 (.t 11)))),
  (1,(o5 104 102 (.ld 1 false (.t 103)))),
  (2,(o5 105 102 (.bin .eql (.t 104) (ci 4)))),(2,(o1 106 (.pick (.t 102) (.t 105) (.c (.b false))))),
  (2,(mt 107 106)),
  (2,(o5 108 107 (.fa 2 (.t 11)))),
  (1,(o5 109 107 (.ld 1 false (.t 108)))),
  (2,(o5 110 107 (.bin .eql (.t 109) (ci 4)))),(2,(o1 111 (.pick (.t 107) (.t 110) (.c (.b false))))),
  (2,(mt 112 111)),
  (2,(o5 113 112 (.fa 3 (.t 11)))),
  (1,(o5 114 112 (.ld 1 false (.t 113)))),
  (2,(o5 115 112 (.len (.t 114)))),
  (2,(o5 116 112 (.bin .eql (.t 115) (ci 18)))),(2,(o1 117 (.pick (.t 112) (.t 116) (.c (.b false))))),
  (2,(mt 118 117)),
  (2,(o5 119 118 (.fa 3 (.t 11)))),
  (1,(o5 120 118 (.ld 1 false (.t 119)))),
  (2,(o5 121 118 (.ia 5 (.t 120) (ci 0)))),
  (1,(o5 122 118 (.ld 5 true (.t 121)))),(0,⟨some 123,some (118,true),.cl (.c (.f 34 [] [])) [(ci 0)]⟩),
  (2,(o5 124 118 (.eq false (.st [(0,1,.n),(1,1,.n),(2,1,.n),(3,1,.n),(4,1,.n)]) (.t 122) (.t 123)))),(2,(o1 125 (.pick (.t 118) (.t 124) (.c (.b false))))),
  (2,(mt 0 125))]
abbrev Q3:AF:=⟨126,(.seq (.reg JW) (.seq (.reg JV) (.seq (.reg JU) (.seq (.reg JT) (.seq (.reg JS) (.seq (.seq (.reg JR) (.cond (.t 71) (.seq (.reg JQ) .ret) .skip)) (.seq (.reg Cb) (.seq (.seq (.reg Ca) (.block 0 wq)) (.seq (.seq (.reg wl) (.block 2 wo)) (.seq (.reg wj) (.seq (.mix wm) .ret))))))))))),[.mv (.t 0)]⟩
theorem JX:bE Try.prog (aE Try.prog 10) 10=some Q3:=by kernel_rfl
/-! compactorlaw25.good-/
/-! compactorlaw25.reached-/
/-! compactorlaw25.reached$1-/
/-! compactorlaw25.AllocateFits$1-/
/-! compactorlaw25.AllocateFits$2-/
/-! optimizer.Prune-/
/-! optimizer.prune-/
/-! optimizer.live-/
/-! optimizer.hollow-/
/-! slices.Clone[[]bool,bool]-/
/-! optimizer.following-/
/-! slices.Equal[[]bool,bool]-/
/-! compactorref24.Prune-/
/-! compactorref24.live-/
/-! compactorref24.idle-/
/-! compactorref24.empty-/
/-! compactorref24.successors-/
/-! compactorlaw24.OptimizerPrunes-/
/-! optimizer.Share-/
/-! optimizer.share-/
/-! optimizer.walk[optimizer.value]-/
/-! optimizer.share$1-/
/-! optimizer.share$2-/
/-! optimizer.expression-/
/-! slices.IndexFunc[[]optimizer.value,optimizer.value]-/
/-! optimizer.share$2$1-/
/-! optimizer.value.computes-/
/-! optimizer.without[optimizer.value]-/
/-! optimizer.both[optimizer.value]-/
/-! optimizer.without[optimizer.value]$1-/
/-! slices.Contains[[]optimizer.value,optimizer.value]-/
/-! slices.Index[[]optimizer.value,optimizer.value]-/
/-! compactorref24.Share-/
/-! compactorref24.keep-/
/-! compactorref24.changes-/
/-! compactorref24.bothFacts-/
/-! compactorref24.expression-/
/-! compactorref24.find-/
/-! compactorlaw24.OptimizerShares-/
/-! optimizer.Optimize-/
/-! compactorref24.Optimize-/
/-! optimizer.Optimize$1-/
/-! slices.Equal[[]api.RegInstr,api.RegInstr]-/
/-! compactorlaw24.OptimizerOptimizes-/
/-! slices.EqualFunc[[][]int,[][]int,[]int,[]int]-/
abbrev JM:List AO:=
 [o1 6 (.mv (.c (.b false)))]
abbrev JL:List AO:=
 [(mt 10 0),o1 11 (.len (.t 10)),
  (mt 12 1),o1 13 (.len (.t 12)),o1 14 (.bin .neq (.t 11) (.t 13))]
abbrev JK:List AO:=
 [o1 6 (.mv (.c (.b false)))]
abbrev JJ:List AO:=
 [(mt 15 0),o1 16 (.len (.t 15)),o1 17 (.mv (ci 0))]
abbrev JI:List AO:=
 [o1 18 (.bin .lss (.t 17) (.t 16))]
abbrev JH:List AO:=
 [(mt 19 17),o1 20 (.ia 1 (.t 15) (.t 17)),o1 21 (.ld 1 false (.t 20)),
  (mt 7 19),
  (mt 8 21)]
abbrev JG:List AO:=
 [(mt 22 1),
  (mt 23 7),o1 24 (.ia 1 (.t 22) (.t 23)),o1 25 (.ld 1 false (.t 24)),
  (mt 9 25)]
abbrev JF:List AO:=
 [(mt 26 2),
  (mt 27 8),
  (mt 28 9),⟨some 29,none,.cl (.t 26) [.t 27,.t 28]⟩,o1 30 (.un .not (.t 29))]
abbrev JE:List AO:=
 [o1 6 (.mv (.c (.b false)))]
abbrev JO:AC:=
 (.seq (.reg JH) (.seq (.reg JG) (.seq (.reg JF) (.cond (.t 30) (.seq (.reg JE) .ret) .skip))))
abbrev CC:List AO:=
 [o1 31 (.bin .add (.t 17) (ci 1)),
  (mt 17 31)]
abbrev CE:AC:=
 (.seq (.reg JI) (.seq (.cond (.t 18) .skip (.exit 0)) (.seq (.block 1 JO) (.reg CC))))
abbrev CD:AC:=
 (.loop CE)
abbrev CB:List AO:=
 [o1 6 (.mv (.c (.b true)))]
abbrev Q2:AF:=⟨32,(.seq (.reg JM) (.seq (.seq (.reg JL) (.cond (.t 14) (.seq (.reg JK) .ret) .skip)) (.seq (.seq (.reg JJ) (.block 0 CD)) (.seq (.reg CB) .ret)))),[.mv (.t 6)]⟩
theorem JN:bE Try.prog (aE Try.prog 15) 15=some Q2:=by kernel_rfl
/-! slices.Equal[[]int,int]-/
abbrev JA:List AO:=
 [o1 4 (.mv (.c (.b false)))]
abbrev Jz:List AO:=
 [(mt 6 0),o1 7 (.len (.t 6)),
  (mt 8 1),o1 9 (.len (.t 8)),o1 10 (.bin .neq (.t 7) (.t 9))]
abbrev Jy:List AO:=
 [o1 4 (.mv (.c (.b false)))]
abbrev Jx:List AO:=
 [(mt 11 0),o1 12 (.len (.t 11)),o1 13 (.mv (ci 0))]
abbrev Jw:List AO:=
 [o1 14 (.bin .lss (.t 13) (.t 12))]
abbrev Jv:List AO:=
 [(mt 15 13),
  (mt 5 15)]
abbrev JC:List (Nat×AO):=
 [(2,(mt 16 0)),
  (2,(mt 17 5)),(2,(o1 18 (.ia 1 (.t 16) (.t 17)))),
  (2,(mt 20 1)),
  (2,(mt 21 5)),(2,(o1 22 (.ia 1 (.t 20) (.t 21)))),(1,(o1 19 (.ld 1 false (.t 18)))),(1,(o1 23 (.ld 1 false (.t 22)))),(2,(o1 24 (.bin .neq (.t 19) (.t 23))))]
abbrev Ju:List AO:=
 [o1 4 (.mv (.c (.b false)))]
abbrev JD:AC:=
 (.seq (.reg Jv) (.seq (.mix JC) (.cond (.t 24) (.seq (.reg Ju) .ret) .skip)))
abbrev Jt:List AO:=
 [o1 25 (.bin .add (.t 13) (ci 1)),
  (mt 13 25)]
abbrev CA:AC:=
 (.seq (.reg Jw) (.seq (.cond (.t 14) .skip (.exit 0)) (.seq (.block 1 JD) (.reg Jt))))
abbrev Cz:AC:=
 (.loop CA)
abbrev Cy:List AO:=
 [o1 4 (.mv (.c (.b true)))]
abbrev Q0:AF:=⟨26,(.seq (.reg JA) (.seq (.seq (.reg Jz) (.cond (.t 10) (.seq (.reg Jy) .ret) .skip)) (.seq (.seq (.reg Jx) (.block 0 Cz)) (.seq (.reg Cy) .ret)))),[.mv (.t 4)]⟩
theorem JB:bE Try.prog (aE Try.prog 16) 16=some Q0:=by kernel_rfl
/-! slices.IsSorted[[]int,int]-/
/-! slices.Contains[[]int,int]-/
/-! slices.EqualFunc[[]api.RegInstr,[]api.RegInstr,api.RegInstr,api.RegInstr]-/
/-! slices.Index[[]int,int]-/
/-! slices.ContainsFunc[[]int,int]-/
/-! slices.IndexFunc[[]int,int]-/
/-! cmp.Less[int]-/
/-! cmp.isNaN[int]-/
/-! compactorlaw25.AllocateLives-/
abbrev Js:List AO:=
 [o1 1 (.bx 25 0 (.t 0)),o1 2 (.mv (.c (.b false)))]
abbrev Jr:List AO:=
 [o1 11 (.ld 4 true (.t 1)),
  (o2 12 9 [.t 11]),o1 13 (.un .not (.t 12))]
abbrev Jq:List AO:=
 [(o2 14 10 []),
  (mt 2 14)]
abbrev Jp:List AO:=
 [o1 16 (.ld 4 true (.t 1)),
  (o2 17 11 [.t 16]),
  (mt 15 17),o1 18 (.ext 0 (.t 15)),o1 19 (.ext 1 (.t 15)),
  (mt 3 18),
  (mt 4 19)]
abbrev Jo:List AO:=
 [o1 21 (.ld 4 true (.t 1)),
  (o2 22 12 [.t 21]),
  (mt 20 22),o1 23 (.ext 0 (.t 20)),o1 24 (.ext 1 (.t 20)),
  (mt 5 23),
  (mt 6 24)]
abbrev Jn:List AO:=
 [o1 26 (.ld 4 true (.t 1)),
  (o2 27 13 [.t 26]),
  (mt 25 27),o1 28 (.ext 0 (.t 25)),o1 29 (.ext 1 (.t 25)),
  (mt 7 28),
  (mt 8 29)]
abbrev Jm:List AO:=
 [o1 31 (.ld 4 true (.t 1)),
  (o2 32 14 [.t 31]),
  (mt 30 32),o1 33 (.ext 0 (.t 30)),o1 34 (.ext 1 (.t 30)),
  (mt 9 33),
  (mt 10 34)]
abbrev Jl:List AO:=
 [(mt 35 3),
  (mt 36 5),
  (o2 37 15 [.t 35,.t 36,(.c (.f 16 [] []))]),
  (mt 38 37),
  (o5 39 38 (.mv (.t 4))),
  (o5 40 38 (.mv (.t 6))),
  (o5 41 38 (.bin .eql (.t 39) (.t 40))),o1 42 (.pick (.t 38) (.t 41) (.c (.b false))),
  (mt 43 42),
  (o5 44 43 (.mv (.t 7))),
  (o5 45 43 (.mv (.t 9))),
  (o5 46 43 (.bin .eql (.t 44) (.t 45))),o1 47 (.pick (.t 43) (.t 46) (.c (.b false))),
  (mt 48 47),
  (o5 49 48 (.mv (.t 8))),
  (o5 50 48 (.mv (.t 10))),
  (o5 51 48 (.bin .eql (.t 49) (.t 50))),o1 52 (.pick (.t 48) (.t 51) (.c (.b false))),
  (mt 53 52),⟨some 54,some (53,true),.cl (.c (.f 10 [] [])) []⟩,o1 55 (.pick (.t 53) (.t 54) (.c (.b false))),
  (mt 2 55)]
abbrev QZ:AF:=⟨56,(.seq (.reg Js) (.seq (.seq (.reg Jr) (.cond (.t 13) (.seq (.reg Jq) .ret) .skip)) (.seq (.reg Jp) (.seq (.reg Jo) (.seq (.reg Jn) (.seq (.reg Jm) (.seq (.reg Jl) .ret))))))),[.mv (.t 2)]⟩
theorem B9:bE Try.prog (aE Try.prog 3) 3=some QZ:=by kernel_rfl
/-! compactorlaw25.AllocateSpills-/
/-! compactorlaw25.AllocateCompacts-/
abbrev Jk:List AO:=
 [o1 1 (.bx 25 0 (.t 0)),o1 2 (.mv (.c (.b false)))]
abbrev Jj:List AO:=
 [o1 7 (.ld 4 true (.t 1)),
  (o2 8 9 [.t 7]),o1 9 (.un .not (.t 8))]
abbrev Ji:List AO:=
 [(o2 10 10 []),
  (mt 2 10)]
abbrev Jh:List AO:=
 [o1 12 (.ld 4 true (.t 1)),
  (o2 13 20 [.t 12]),
  (mt 11 13),o1 14 (.ext 0 (.t 11)),o1 15 (.ext 1 (.t 11)),o1 3 (.al 25 [.sl0,.n .i64 0,.n .i64 0,.sl0]),
  (o3 (.st 4 (.t 3) (.t 14))),
  (mt 4 15)]
abbrev Jg:List AO:=
 [o1 17 (.ld 4 true (.t 1)),
  (o2 18 21 [.t 17]),
  (mt 16 18),o1 19 (.ext 0 (.t 16)),o1 20 (.ext 1 (.t 16)),o1 5 (.al 25 [.sl0,.n .i64 0,.n .i64 0,.sl0]),
  (o3 (.st 4 (.t 5) (.t 19))),
  (mt 6 20)]
abbrev Jf:List AO:=
 [o1 21 (.ld 4 true (.t 3)),o1 22 (.ld 4 true (.t 5)),
  (o2 23 19 [.t 21,.t 22]),
  (mt 24 23),
  (o5 25 24 (.mv (.t 4))),
  (o5 26 24 (.mv (.t 6))),
  (o5 27 24 (.bin .eql (.t 25) (.t 26))),o1 28 (.pick (.t 24) (.t 27) (.c (.b false))),
  (mt 29 28),⟨some 30,some (29,true),.cl (.c (.f 10 [] [])) []⟩,o1 31 (.pick (.t 29) (.t 30) (.c (.b false))),
  (mt 2 31)]
abbrev QY:AF:=⟨32,(.seq (.reg Jk) (.seq (.seq (.reg Jj) (.cond (.t 9) (.seq (.reg Ji) .ret) .skip)) (.seq (.reg Jh) (.seq (.reg Jg) (.seq (.reg Jf) .ret))))),[.mv (.t 2)]⟩
theorem B8:bE Try.prog (aE Try.prog 5) 5=some QY:=by kernel_rfl
/-! compactorlaw25.AllocateSettles-/
/-! compactorlaw25.AllocateNeeds-/
/-! compactorlaw25.AllocateFits-/
end Go.Proofs.Yteopfmnnhlhbmaa