/- A part of the proof of AllocateNeeds: AcA AcB AcAlA AcAlI AcAlD AcAlE AcAlG AcAlF AcD AcC AcE AcAlH AcAlJ. No condition. -/
import Derived.Test.YteopfmnnhlhbmaaHn12
import Derived.Test.YteopfmnnhlhbmaaProg
set_option linter.unusedSimpArgs false
set_option linter.unusedVariables false
set_option linter.constructorNameAsVariable false
set_option maxRecDepth 100000
set_option maxHeartbeats 4000000
namespace Go.Proofs.Yteopfmnnhlhbmaa
open Go.RowKit
/-! optimizer.numbers-/
/-! lower.Uses-/
abbrev Rj:List AO:=
 [o1 1 (.bx 60 0 (.t 0)),o1 2 (.mv (.c .sl0)),o1 3 (.mv (ci 0))]
abbrev Ri:List AO:=
 [o1 6 (.fa 0 (.t 1)),o1 7 (.ld 1 false (.t 6)),
  (o2 8 88 [.t 7]),o1 4 (.al 104 [.b false,.b false,.b false,.b false]),
  (o3 (.st 4 (.t 4) (.t 8)))]
abbrev Rh:List AO:=
 [o1 5 (.mv (.c .sl0))]
abbrev Rg:List AO:=
 [o1 9 (.fa 2 (.t 4)),o1 10 (.ld 1 false (.t 9))]
abbrev Rf:List AO:=
 [(mt 11 5),o1 12 (.fa 2 (.t 1)),o1 13 (.ld 1 false (.t 12)),o1 14 (.bs 3 1 1 [.n .i64 0] [(0,1,(.t 13))]),o1 15 (.app 3 1 8 (.t 11) (.t 14)),
  (mt 5 15)]
abbrev Re:List AO:=
 [o1 16 (.fa 3 (.t 4)),o1 17 (.ld 1 false (.t 16))]
abbrev Rd:List AO:=
 [(mt 18 5),o1 19 (.fa 3 (.t 1)),o1 20 (.ld 1 false (.t 19)),o1 21 (.bs 3 1 1 [.n .i64 0] [(0,1,(.t 20))]),o1 22 (.app 3 1 8 (.t 18) (.t 21)),
  (mt 5 22)]
abbrev Rc:List AO:=
 [o1 23 (.fa 1 (.t 4)),o1 24 (.ld 1 false (.t 23)),o1 25 (.un .not (.t 24))]
abbrev Rb:List AO:=
 [(mt 26 5),
  (mt 2 26),o1 3 (.mv (.c (.n .i64 (-1))))]
abbrev Rl:List (Nat×AO):=
 [(2,(mt 27 5)),(2,(o1 28 (.fa 1 (.t 1)))),
  (2,(mt 2 27)),(1,(o1 29 (.ld 1 false (.t 28)))),
  (2,(mt 3 29))]
abbrev x1F:AF:=⟨30,(.seq (.reg Rj) (.seq (.reg Ri) (.seq (.reg Rh) (.seq (.seq (.reg Rg) (.cond (.t 10) (.reg Rf) .skip)) (.seq (.seq (.reg Re) (.cond (.t 17) (.reg Rd) .skip)) (.seq (.seq (.reg Rc) (.cond (.t 25) (.seq (.reg Rb) .ret) .skip)) (.seq (.mix Rl) .ret))))))),[.mv (.t 2),.mv (.t 3)]⟩
theorem Rk:bF Try.prog (aB Try.prog 68) 68=some x1F:=by kernel_rfl
/-! lower.shape-/
/-! optimizer.written-/
/-! optimizer.source-/
/-! slices.Index[[]optimizer.known,optimizer.known]-/
/-! slices.Contains[[]optimizer.known,optimizer.known]-/
/-! slices.IndexFunc[[]optimizer.known,optimizer.known]-/
/-! optimizer.numbers$1-/
/-! optimizer.both[optimizer.known]-/
/-! optimizer.without[optimizer.known]-/
/-! optimizer.without[optimizer.known]$1-/
/-! slices.ContainsFunc[[]api.RegInstr,api.RegInstr]-/
/-! slices.IndexFunc[[]api.RegInstr,api.RegInstr]-/
/-! optimizer.arithmetic-/
/-! optimizer.folded-/
/-! optimizer.fold$1-/
/-! optimizer.fold$2-/
/-! optimizer.pairs-/
/-! optimizer.walk[optimizer.known]-/
/-! optimizer.fold-/
/-! optimizer.checked-/
/-! optimizer.copied-/
/-! optimizer.Fold-/
/-! compactorref24.writes-/
/-! compactorref24.copyKnown-/
/-! compactorref24.forget-/
/-! compactorref24.bothKnown-/
/-! compactorref24.folded-/
/-! compactorref24.Fold-/
/-! compactorref23.Uses-/
abbrev QX:List AO:=
 [o1 1 (.bx 60 0 (.t 0)),o1 2 (.mv (.c .sl0)),o1 3 (.mv (ci 0))]
abbrev QW:List AO:=
 [o1 10 (.fa 0 (.t 1)),o1 11 (.ld 1 false (.t 10)),
  (o2 12 82 [.t 11]),
  (mt 9 12),o1 13 (.ext 0 (.t 9)),o1 14 (.ext 1 (.t 9)),o1 15 (.ext 2 (.t 9)),o1 16 (.ext 3 (.t 9)),
  (mt 4 13),
  (mt 5 14),
  (mt 6 15),
  (mt 7 16)]
abbrev QV:List AO:=
 [o1 8 (.mv (.c .sl0))]
abbrev QU:List AO:=
 [(mt 17 5)]
abbrev QT:List AO:=
 [(mt 18 8),o1 19 (.fa 2 (.t 1)),o1 20 (.ld 1 false (.t 19)),o1 21 (.bs 3 1 1 [.n .i64 0] [(0,1,(.t 20))]),o1 22 (.app 3 1 8 (.t 18) (.t 21)),
  (mt 8 22)]
abbrev QS:List AO:=
 [(mt 23 6)]
abbrev QR:List AO:=
 [(mt 24 8),o1 25 (.fa 3 (.t 1)),o1 26 (.ld 1 false (.t 25)),o1 27 (.bs 3 1 1 [.n .i64 0] [(0,1,(.t 26))]),o1 28 (.app 3 1 8 (.t 24) (.t 27)),
  (mt 8 28)]
abbrev QQ:List AO:=
 [(mt 29 4)]
abbrev QZ:List (Nat×AO):=
 [(2,(mt 30 8)),(2,(o1 31 (.fa 1 (.t 1)))),
  (2,(mt 2 30)),(1,(o1 32 (.ld 1 false (.t 31)))),
  (2,(mt 3 32))]
abbrev QP:List AO:=
 [(mt 33 8),
  (mt 2 33),o1 3 (.mv (.c (.n .i64 (-1))))]
abbrev x2F:AF:=⟨34,(.seq (.reg QX) (.seq (.reg QW) (.seq (.reg QV) (.seq (.seq (.reg QU) (.cond (.t 17) (.reg QT) .skip)) (.seq (.seq (.reg QS) (.cond (.t 23) (.reg QR) .skip)) (.seq (.seq (.reg QQ) (.cond (.t 29) (.seq (.mix QZ) .ret) .skip)) (.seq (.reg QP) .ret))))))),[.mv (.t 2),.mv (.t 3)]⟩
theorem QY:bF Try.prog (aB Try.prog 57) 57=some x2F:=by kernel_rfl
/-! compactorref23.Parts-/
/-! slices.Clone[[]api.Array,api.Array]-/
abbrev QD:List AO:=
 [o1 2 (.mv (.c .sl0))]
abbrev QC:List AO:=
 [(mt 3 0),⟨some 4,none,.sn false (.t 3)⟩]
abbrev QB:List AO:=
 [o1 2 (.mv (.c .sl0))]
abbrev QA:List AO:=
 [o1 5 (.bs 102 2 0 [] []),
  (mt 6 0),o1 7 (.app 102 2 16 (.t 5) (.t 6)),
  (mt 2 7)]
abbrev x3F:AF:=⟨8,(.seq (.reg QD) (.seq (.seq (.reg QC) (.cond (.t 4) (.seq (.reg QB) .ret) .skip)) (.seq (.reg QA) .ret))),[.mv (.t 2)]⟩
theorem QE:bF Try.prog (aB Try.prog 75) 75=some x3F:=by kernel_rfl
/-! slices.Clone[[]api.RegInstr,api.RegInstr]-/
abbrev Qq:List AO:=
 [o1 2 (.mv (.c .sl0))]
abbrev Qp:List AO:=
 [(mt 3 0),⟨some 4,none,.sn false (.t 3)⟩]
abbrev Qo:List AO:=
 [o1 2 (.mv (.c .sl0))]
abbrev Qn:List AO:=
 [o1 5 (.bs 60 5 0 [] []),
  (mt 6 0),o1 7 (.app 60 5 40 (.t 5) (.t 6)),
  (mt 2 7)]
abbrev x4F:AF:=⟨8,(.seq (.reg Qq) (.seq (.seq (.reg Qp) (.cond (.t 4) (.seq (.reg Qo) .ret) .skip)) (.seq (.reg Qn) .ret))),[.mv (.t 2)]⟩
theorem Qr:bF Try.prog (aB Try.prog 29) 29=some x4F:=by kernel_rfl
/-! compactorref23.Same-/
/-! compactorref15.SameArrays-/
/-! compactorref24.Few-/
/-! compactorref23.Few-/
abbrev Ql:List AO:=
 [o1 1 (.bx 25 0 (.t 0)),o1 2 (.mv (.c (.b false)))]
abbrev Qk:List AO:=
 [o1 3 (.fa 0 (.t 1)),o1 4 (.ld 1 false (.t 3)),o1 5 (.len (.t 4)),o1 6 (.bin .leq (.t 5) (ci 20)),
  (mt 7 6),
  (o5 8 7 (.fa 3 (.t 1))),
  (o5 9 7 (.ld 1 false (.t 8))),
  (o5 10 7 (.len (.t 9))),
  (o5 11 7 (.bin .leq (.t 10) (ci 300))),o1 12 (.pick (.t 7) (.t 11) (.c (.b false))),
  (mt 2 12)]
abbrev x5F:AF:=⟨13,(.seq (.reg Ql) (.seq (.reg Qk) .ret)),[.mv (.t 2)]⟩
theorem Qm:bF Try.prog (aB Try.prog 33) 33=some x5F:=by kernel_rfl
/-! compactorlaw24.OptimizerFolds-/
/-! lower.shapes-/
/-! optimizer.Copies-/
/-! optimizer.copies-/
/-! optimizer.walk[optimizer.same]-/
/-! optimizer.copies$1-/
/-! optimizer.copies$2-/
/-! optimizer.without[optimizer.same]-/
/-! optimizer.both[optimizer.same]-/
/-! optimizer.without[optimizer.same]$1-/
/-! slices.Contains[[]optimizer.same,optimizer.same]-/
/-! slices.Index[[]optimizer.same,optimizer.same]-/
/-! compactorref24.Copies-/
/-! compactorref24.source-/
/-! compactorref24.withoutSources-/
/-! compactorref24.bothSources-/
/-! compactorref24.only-/
/-! compactorref23.Copy-/
/-! compactorlaw24.OptimizerCopies-/
/-! allocate.blocks-/
abbrev Qi:List AO:=
 [o1 2 (.mv (.c (.cv (.map none))))]
abbrev Qh:List AO:=
 [⟨some 14,none,.mo (.mm)⟩,
  (mt 3 14)]
abbrev Qg:List AO:=
 [o1 4 (.mv (.c .sl0)),o1 5 (.mv (.c .sl0))]
abbrev Qf:List AO:=
 [o1 6 (.mv (.c .sl0))]
abbrev Qe:List AO:=
 [(mt 15 0),o1 16 (.len (.t 15)),o1 17 (.mv (ci 0))]
abbrev Qd:List AO:=
 [o1 18 (.bin .lss (.t 17) (.t 16))]
abbrev Qc:List AO:=
 [(mt 19 17),o1 20 (.ia 5 (.t 15) (.t 17)),o1 21 (.ld 5 true (.t 20)),o1 8 (.al 60 [.n .i64 0,.n .i64 0,.n .i64 0,.n .i64 0,.n .u32 0]),
  (mt 7 19),
  (o3 (.st 5 (.t 8) (.t 21)))]
abbrev Qb:List AO:=
 [o1 22 (.fa 0 (.t 8)),o1 23 (.ld 1 false (.t 22))]
abbrev Qa:List AO:=
 [o1 25 (.bin .eql (.t 23) (ci 27)),
  (mt 24 25)]
abbrev P9:List AO:=
 [o1 26 (.bin .eql (.t 23) (ci 29)),
  (mt 24 26)]
abbrev IW:List AO:=
 [(mt 27 4),
  (mt 28 7),o1 29 (.bs 3 1 1 [.n .i64 0] [(0,1,(.t 28))]),o1 30 (.app 3 1 8 (.t 27) (.t 29)),
  (mt 31 5),
  (mt 32 7),o1 33 (.bs 3 1 1 [.n .i64 0] [(0,1,(.t 32))]),o1 34 (.app 3 1 8 (.t 31) (.t 33)),
  (mt 35 6),o1 36 (.bs 39 1 1 [.sl0] [(0,1,(.c .sl0))]),o1 37 (.app 39 1 24 (.t 35) (.t 36)),
  (mt 4 30),
  (mt 5 34),
  (mt 6 37)]
abbrev IV:List AO:=
 [o1 39 (.bin .eql (.t 23) (ci 28)),
  (mt 38 39)]
abbrev IU:List AO:=
 [(mt 40 4),o1 41 (.len (.t 40)),o1 42 (.bin .sub (.t 41) (ci 1)),
  (mt 9 42)]
abbrev IR:List AO:=
 [(mt 43 3),
  (mt 44 4),
  (mt 45 9),o1 46 (.ia 1 (.t 44) (.t 45)),o1 47 (.ld 1 false (.t 46)),
  (mt 48 5),
  (mt 49 9),
  (mt 50 7),
  (mt 51 7),⟨some 52,none,.mo (.me (.n .i64 0) (.t 43) (.t 47))⟩,o1 53 (.ext 1 (.t 52)),⟨none,none,.mo (.es (.t 43) (.t 53) (.t 50))⟩,o1 54 (.ia 1 (.t 48) (.t 49)),
  (o3 (.st 1 (.t 54) (.t 51)))]
abbrev IQ:List AO:=
 [o1 56 (.bin .eql (.t 23) (ci 30)),
  (mt 55 56)]
abbrev Cb:List AO:=
 [(mt 57 4),o1 58 (.len (.t 57)),o1 59 (.bin .sub (.t 58) (ci 1)),
  (mt 10 59)]
abbrev IP:List AO:=
 [(mt 60 0),
  (mt 61 4),
  (mt 62 10),o1 63 (.ia 1 (.t 61) (.t 62)),o1 64 (.ld 1 false (.t 63)),o1 65 (.ia 5 (.t 60) (.t 64)),o1 66 (.fa 0 (.t 65)),o1 67 (.ld 1 false (.t 66)),o1 68 (.bin .neq (.t 67) (ci 29))]
abbrev IM:List AO:=
 [(mt 69 10),o1 70 (.bin .sub (.t 69) (ci 1)),
  (mt 10 70)]
abbrev I1:AC:=
 (.reg IM)
abbrev I4:AC:=
 (.seq (.seq (.reg IP) (.cond (.t 68) .skip (.exit 3))) (.block 4 I1))
abbrev Cf:AC:=
 (.loop I4)
abbrev Ca:List AO:=
 [(mt 71 6),
  (mt 72 10),
  (mt 73 6),
  (mt 74 10),o1 75 (.ia 1 (.t 73) (.t 74)),o1 76 (.ld 1 false (.t 75)),
  (mt 77 7),o1 78 (.bs 3 1 1 [.n .i64 0] [(0,1,(.t 77))]),o1 79 (.app 3 1 8 (.t 76) (.t 78)),o1 80 (.ia 1 (.t 71) (.t 72)),
  (o3 (.st 1 (.t 80) (.t 79)))]
abbrev IL:List AO:=
 [o1 82 (.bin .eql (.t 23) (ci 31)),
  (mt 81 82)]
abbrev B9:List AO:=
 [(mt 83 4),o1 84 (.len (.t 83)),o1 85 (.bin .sub (.t 84) (ci 1)),
  (mt 11 85)]
abbrev Cd:List (Nat×AO):=
 [(2,(mt 86 3)),
  (2,(mt 87 5)),
  (2,(mt 88 11)),(2,(o1 89 (.ia 1 (.t 87) (.t 88)))),
  (2,(mt 91 3)),
  (2,(mt 92 7)),
  (2,(mt 93 7)),
  (2,(mt 94 4)),
  (2,(mt 95 11)),(2,(o1 96 (.ia 1 (.t 94) (.t 95)))),(1,(o1 90 (.ld 1 false (.t 89)))),(1,(o1 97 (.ld 1 false (.t 96)))),(3,⟨some 98,none,.mo (.me (.n .i64 0) (.t 86) (.t 90))⟩),(2,(o1 99 (.ext 1 (.t 98)))),(3,⟨none,none,.mo (.es (.t 86) (.t 99) (.t 93))⟩),(3,⟨some 100,none,.mo (.me (.n .i64 0) (.t 91) (.t 92))⟩),(2,(o1 101 (.ext 1 (.t 100)))),(3,⟨none,none,.mo (.es (.t 91) (.t 101) (.t 97))⟩)]
abbrev B8:List AO:=
 [(mt 102 6),
  (mt 103 11),o1 104 (.ia 1 (.t 102) (.t 103)),o1 105 (.ld 1 false (.t 104)),o1 106 (.len (.t 105)),o1 107 (.mv (ci 0))]
abbrev IK:List AO:=
 [o1 108 (.bin .lss (.t 107) (.t 106))]
abbrev IJ:List AO:=
 [o1 109 (.ia 1 (.t 105) (.t 107)),o1 110 (.ld 1 false (.t 109)),
  (mt 13 110)]
abbrev II:List AO:=
 [(mt 111 3),
  (mt 112 13),
  (mt 113 7),⟨none,none,.mo (.mu (.t 111) (.t 112) (.t 113))⟩]
abbrev I0:AC:=
 (.seq (.reg IJ) (.reg II))
abbrev IH:List AO:=
 [o1 114 (.bin .add (.t 107) (ci 1)),
  (mt 107 114)]
abbrev I3:AC:=
 (.seq (.reg IK) (.seq (.cond (.t 108) .skip (.exit 5)) (.seq (.block 6 I0) (.reg IH))))
abbrev Ce:AC:=
 (.loop I3)
abbrev Cc:List (Nat×AO):=
 [(2,(mt 115 4)),
  (2,(mt 116 11)),(2,(o1 117 (.sl 1 (.t 115) none (some (.t 116))))),
  (2,(mt 118 5)),
  (2,(mt 119 11)),(2,(o1 120 (.sl 1 (.t 118) none (some (.t 119))))),
  (2,(mt 121 6)),
  (2,(mt 122 11)),(2,(o1 123 (.sl 1 (.t 121) none (some (.t 122))))),
  (2,(mt 4 117)),
  (2,(mt 5 120)),
  (2,(mt 6 123))]
abbrev IZ:AC:=
 (.seq (.seq (.reg Qa) (.cond (.t 24) .skip (.reg P9))) (.cond (.t 24) (.reg IW) (.seq (.reg IV) (.cond (.t 38) (.seq (.reg IU) (.reg IR)) (.seq (.reg IQ) (.cond (.t 55) (.seq (.reg Cb) (.seq (.block 3 Cf) (.reg Ca))) (.seq (.reg IL) (.cond (.t 81) (.seq (.reg B9) (.seq (.mix Cd) (.seq (.seq (.reg B8) (.block 5 Ce)) (.mix Cc)))) .skip))))))))
abbrev IY:AC:=
 (.seq (.reg Qc) (.seq (.reg Qb) (.block 2 IZ)))
abbrev IG:List AO:=
 [o1 124 (.bin .add (.t 17) (ci 1)),
  (mt 17 124)]
abbrev I2:AC:=
 (.seq (.reg Qd) (.seq (.cond (.t 18) .skip (.exit 0)) (.seq (.block 1 IY) (.reg IG))))
abbrev IX:AC:=
 (.loop I2)
abbrev IE:List AO:=
 [(mt 125 3),
  (mt 2 125)]
abbrev x6F:AF:=⟨126,(.seq (.reg Qi) (.seq (.reg Qh) (.seq (.reg Qg) (.seq (.reg Qf) (.seq (.seq (.reg Qe) (.block 0 IX)) (.seq (.reg IE) .ret)))))),[.mv (.t 2)]⟩
theorem Qj:bF Try.prog (aB Try.prog 86) 86=some x6F:=by kernel_rfl
/-! allocate.graph-/
abbrev P7:List AO:=
 [o1 2 (.mv (.c .sl0))]
abbrev P6:List AO:=
 [(mt 9 0),
  (o2 10 86 [.t 9]),
  (mt 3 10)]
abbrev P5:List AO:=
 [o1 4 (.mv (.c .sl0))]
abbrev P4:List AO:=
 [(mt 11 0),o1 12 (.len (.t 11)),o1 13 (.mv (ci 0))]
abbrev P3:List AO:=
 [o1 14 (.bin .lss (.t 13) (.t 12))]
abbrev P2:List AO:=
 [(mt 15 13),o1 16 (.ia 5 (.t 11) (.t 13)),o1 17 (.ld 5 true (.t 16)),o1 6 (.al 60 [.n .i64 0,.n .i64 0,.n .i64 0,.n .i64 0,.n .u32 0]),
  (mt 5 15),
  (o3 (.st 5 (.t 6) (.t 17)))]
abbrev P1:List AO:=
 [(mt 18 5),o1 19 (.bin .add (.t 18) (ci 1)),o1 20 (.bs 3 1 1 [.n .i64 0] [(0,1,(.t 19))]),
  (mt 7 20)]
abbrev P0:List AO:=
 [o1 21 (.fa 0 (.t 6)),o1 22 (.ld 1 false (.t 21))]
abbrev PZ:List AO:=
 [o1 24 (.bin .eql (.t 22) (ci 27)),
  (mt 23 24)]
abbrev PY:List AO:=
 [o1 25 (.bin .eql (.t 22) (ci 29)),
  (mt 23 25)]
abbrev Iy:List AO:=
 [o1 26 (.bin .eql (.t 22) (ci 30)),
  (mt 23 26)]
abbrev Ix:List AO:=
 [(mt 27 7),
  (mt 28 3),
  (mt 29 5),⟨some 30,none,.mo (.lk (.n .i64 0) false (.t 28) (.t 29))⟩,o1 31 (.bin .add (.t 30) (ci 1)),o1 32 (.bs 3 1 1 [.n .i64 0] [(0,1,(.t 31))]),o1 33 (.app 3 1 8 (.t 27) (.t 32)),
  (mt 7 33)]
abbrev Iw:List AO:=
 [o1 34 (.fa 0 (.t 6)),o1 35 (.ld 1 false (.t 34)),o1 36 (.bin .eql (.t 35) (ci 27)),
  (mt 37 36),
  (o5 38 37 (.mv (.t 0))),
  (o5 39 37 (.mv (.t 3))),
  (o5 40 37 (.mv (.t 5))),⟨some 41,some (37,true),.mo (.lk (.n .i64 0) false (.t 39) (.t 40))⟩,
  (o5 42 37 (.ia 5 (.t 38) (.t 41))),
  (o5 43 37 (.fa 0 (.t 42))),
  (o5 44 37 (.ld 1 false (.t 43))),
  (o5 45 37 (.bin .eql (.t 44) (ci 31))),o1 46 (.pick (.t 37) (.t 45) (.c (.b false)))]
abbrev Iv:List AO:=
 [(mt 47 7),
  (mt 48 3),
  (mt 49 5),⟨some 50,none,.mo (.lk (.n .i64 0) false (.t 48) (.t 49))⟩,o1 51 (.ia 1 (.t 47) (ci 1)),
  (o3 (.st 1 (.t 51) (.t 50)))]
abbrev Iu:List AO:=
 [o1 53 (.bin .eql (.t 22) (ci 28)),
  (mt 52 53)]
abbrev It:List AO:=
 [(mt 54 7),
  (mt 55 3),
  (mt 56 5),⟨some 57,none,.mo (.lk (.n .i64 0) false (.t 55) (.t 56))⟩,o1 58 (.bin .add (.t 57) (ci 1)),o1 59 (.ia 1 (.t 54) (ci 0)),
  (o3 (.st 1 (.t 59) (.t 58)))]
abbrev Ir:List AO:=
 [o1 61 (.bin .eql (.t 22) (ci 31)),
  (mt 60 61)]
abbrev Iq:List AO:=
 [(mt 62 3),
  (mt 63 5),⟨some 64,none,.mo (.lk (.n .i64 0) false (.t 62) (.t 63))⟩,
  (mt 8 64)]
abbrev Ip:List AO:=
 [(mt 65 0),
  (mt 66 8),o1 67 (.ia 5 (.t 65) (.t 66)),o1 68 (.fa 0 (.t 67)),o1 69 (.ld 1 false (.t 68)),o1 70 (.bin .eql (.t 69) (ci 29))]
abbrev Im:List AO:=
 [(mt 71 7),
  (mt 72 8),o1 73 (.bin .add (.t 72) (ci 1)),o1 74 (.bs 3 1 1 [.n .i64 0] [(0,1,(.t 73))]),o1 75 (.app 3 1 8 (.t 71) (.t 74)),
  (mt 7 75)]
abbrev IB:AC:=
 (.seq (.seq (.reg PZ) (.cond (.t 23) .skip (.seq (.reg PY) (.cond (.t 23) .skip (.reg Iy))))) (.cond (.t 23) (.seq (.reg Ix) (.seq (.reg Iw) (.cond (.t 46) (.reg Iv) .skip))) (.seq (.reg Iu) (.cond (.t 52) (.reg It) (.seq (.reg Ir) (.cond (.t 60) (.seq (.reg Iq) (.seq (.reg Ip) (.cond (.t 70) (.reg Im) .skip))) .skip))))))
abbrev Il:List AO:=
 [(mt 76 4),
  (mt 77 7),o1 78 (.bs 39 1 1 [.sl0] [(0,1,(.t 77))]),o1 79 (.app 39 1 24 (.t 76) (.t 78)),
  (mt 4 79)]
abbrev IA:AC:=
 (.seq (.reg P2) (.seq (.reg P1) (.seq (.seq (.reg P0) (.block 2 IB)) (.reg Il))))
abbrev Ik:List AO:=
 [o1 80 (.bin .add (.t 13) (ci 1)),
  (mt 13 80)]
abbrev IC:AC:=
 (.seq (.reg P3) (.seq (.cond (.t 14) .skip (.exit 0)) (.seq (.block 1 IA) (.reg Ik))))
abbrev Iz:AC:=
 (.loop IC)
abbrev Ij:List AO:=
 [(mt 81 4),
  (mt 2 81)]
abbrev x7F:AF:=⟨82,(.seq (.reg P7) (.seq (.reg P6) (.seq (.reg P5) (.seq (.seq (.reg P4) (.block 0 Iz)) (.seq (.reg Ij) .ret))))),[.mv (.t 2)]⟩
theorem P8:bF Try.prog (aB Try.prog 66) 66=some x7F:=by kernel_rfl
/-! allocate.occurring-/
abbrev PV:List AO:=
 [o1 2 (.mv (.c .sl0))]
abbrev PU:List AO:=
 [⟨some 10,none,.mo (.mm)⟩,
  (mt 3 10)]
abbrev PS:List AO:=
 [(mt 11 0),o1 12 (.len (.t 11)),o1 13 (.mv (ci 0))]
abbrev PQ:List AO:=
 [o1 14 (.bin .lss (.t 13) (.t 12))]
abbrev PP:List AO:=
 [o1 15 (.ia 5 (.t 11) (.t 13)),o1 16 (.ld 5 true (.t 15)),o1 5 (.al 60 [.n .i64 0,.n .i64 0,.n .i64 0,.n .i64 0,.n .u32 0]),
  (o3 (.st 5 (.t 5) (.t 16)))]
abbrev PO:List AO:=
 [o1 18 (.ld 5 true (.t 5)),
  (o2 19 68 [.t 18]),
  (mt 17 19),o1 20 (.ext 0 (.t 17)),o1 21 (.ext 1 (.t 17)),
  (mt 6 20),
  (mt 7 21)]
abbrev PN:List AO:=
 [(mt 22 6),
  (mt 23 7),o1 24 (.bs 3 1 1 [.n .i64 0] [(0,1,(.t 23))]),o1 25 (.app 3 1 8 (.t 22) (.t 24)),o1 26 (.len (.t 25)),o1 27 (.mv (ci 0))]
abbrev PL:List AO:=
 [o1 28 (.bin .lss (.t 27) (.t 26))]
abbrev PK:List AO:=
 [o1 29 (.ia 1 (.t 25) (.t 27)),o1 30 (.ld 1 false (.t 29)),
  (mt 9 30)]
abbrev PJ:List AO:=
 [(mt 31 9),o1 32 (.bin .geq (.t 31) (ci 0))]
abbrev Ia:List AO:=
 [(mt 33 3),
  (mt 34 9),⟨none,none,.mo (.mu (.t 33) (.t 34) (.c (.b true)))⟩]
abbrev Ig:AC:=
 (.seq (.reg PK) (.seq (.reg PJ) (.cond (.t 32) (.reg Ia) .skip)))
abbrev H9:List AO:=
 [o1 35 (.bin .add (.t 27) (ci 1)),
  (mt 27 35)]
abbrev Ii:AC:=
 (.seq (.reg PL) (.seq (.cond (.t 28) .skip (.exit 2)) (.seq (.block 3 Ig) (.reg H9))))
abbrev Ie:AC:=
 (.loop Ii)
abbrev Ic:AC:=
 (.seq (.reg PP) (.seq (.reg PO) (.seq (.reg PN) (.block 2 Ie))))
abbrev H8:List AO:=
 [o1 36 (.bin .add (.t 13) (ci 1)),
  (mt 13 36)]
abbrev Ih:AC:=
 (.seq (.reg PQ) (.seq (.cond (.t 14) .skip (.exit 0)) (.seq (.block 1 Ic) (.reg H8))))
abbrev Ib:AC:=
 (.loop Ih)
abbrev H7:List AO:=
 [(mt 37 3),
  (o2 38 38 [.t 37]),
  (o2 39 37 [.t 38]),
  (mt 2 39)]
abbrev x8F:AF:=⟨40,(.seq (.reg PV) (.seq (.reg PU) (.seq (.seq (.reg PS) (.block 0 Ib)) (.seq (.reg H7) .ret)))),[.mv (.t 2)]⟩
theorem PW:bF Try.prog (aB Try.prog 52) 52=some x8F:=by kernel_rfl
/-! allocate.replaced-/
abbrev PD:List AO:=
 [o1 2 (.bx 60 0 (.t 0)),o1 4 (.al 60 [.n .i64 0,.n .i64 0,.n .i64 0,.n .i64 0,.n .u32 0])]
abbrev PC:List AO:=
 [o1 9 (.fa 1 (.t 2)),o1 10 (.fa 2 (.t 2)),o1 11 (.fa 3 (.t 2)),o1 12 (.bs 120 1 3 [.p0,.p0,.p0] [(0,1,(.t 9)),(1,1,(.t 10)),(2,1,(.t 11))]),o1 13 (.len (.t 12)),o1 14 (.mv (ci 0))]
abbrev PB:List AO:=
 [o1 15 (.bin .lss (.t 14) (.t 13))]
abbrev PA:List AO:=
 [o1 16 (.ia 1 (.t 12) (.t 14)),o1 17 (.ld 1 false (.t 16)),
  (mt 6 17)]
abbrev Pz:List AO:=
 [(mt 19 1),
  (mt 20 6),o1 21 (.nc (.t 20)),o1 22 (.ld 1 false (.t 21)),⟨some 23,none,.mo (.lk (.n .i64 0) true (.t 19) (.t 22))⟩,
  (mt 18 23),o1 24 (.ext 0 (.t 18)),o1 25 (.ext 1 (.t 18)),
  (mt 7 24),
  (mt 8 25)]
abbrev Py:List AO:=
 [(mt 26 8)]
abbrev Px:List AO:=
 [(mt 27 6),
  (mt 28 7),o1 29 (.nc (.t 27)),
  (o3 (.st 1 (.t 29) (.t 28)))]
abbrev PG:AC:=
 (.seq (.reg PA) (.seq (.reg Pz) (.seq (.reg Py) (.cond (.t 26) (.reg Px) .skip))))
abbrev Pw:List AO:=
 [o1 30 (.bin .add (.t 14) (ci 1)),
  (mt 14 30)]
abbrev PH:AC:=
 (.seq (.reg PB) (.seq (.cond (.t 15) .skip (.exit 0)) (.seq (.block 1 PG) (.reg Pw))))
abbrev H6:AC:=
 (.loop PH)
abbrev H5:List AO:=
 [o1 31 (.ld 5 true (.t 2)),
  (o3 (.st 5 (.t 4) (.t 31)))]
abbrev x9F:AF:=⟨32,(.seq (.reg PD) (.seq (.seq (.reg PC) (.block 0 H6)) (.seq (.reg H5) .ret))),[.ld 5 true (.t 4)]⟩
theorem PF:bF Try.prog (aB Try.prog 46) 46=some x9F:=by kernel_rfl
/-! allocate.copied-/
abbrev Oj:List AO:=
 [o1 1 (.bx 25 0 (.t 0)),o1 2 (.al 25 [.sl0,.n .i64 0,.n .i64 0,.sl0])]
abbrev Ol:List (Nat×AO):=
 [(2,(o1 3 (.fa 0 (.t 1)))),(2,(o1 6 (.fa 3 (.t 1)))),(1,(o1 4 (.ld 1 false (.t 3)))),(1,(o1 7 (.ld 1 false (.t 6)))),
  (0,(o2 5 75 [.t 4])),(2,(o1 9 (.fa 0 (.t 1)))),
  (3,(o2 8 29 [.t 7])),
  (3,(o3 (.st 1 (.t 9) (.t 5)))),(2,(o1 10 (.fa 3 (.t 1)))),
  (3,(o3 (.st 1 (.t 10) (.t 8))))]
abbrev Oi:List AO:=
 [o1 11 (.ld 4 true (.t 1)),
  (o3 (.st 4 (.t 2) (.t 11)))]
abbrev Rv:AF:=⟨12,(.seq (.reg Oj) (.seq (.mix Ol) (.seq (.reg Oi) .ret))),[.ld 4 true (.t 2)]⟩
theorem Ok:bF Try.prog (aB Try.prog 44) 44=some Rv:=by kernel_rfl
/-! allocate.renamed-/
abbrev Oc:List AO:=
 [o1 3 (.bx 25 0 (.t 0)),o1 6 (.al 25 [.sl0,.n .i64 0,.n .i64 0,.sl0])]
abbrev Ob:List AO:=
 [o1 10 (.ld 4 true (.t 3)),
  (o2 11 44 [.t 10]),o1 7 (.al 25 [.sl0,.n .i64 0,.n .i64 0,.sl0]),
  (o3 (.st 4 (.t 7) (.t 11)))]
abbrev Oa:List AO:=
 [(mt 12 2),o1 13 (.fa 1 (.t 7)),
  (o3 (.st 1 (.t 13) (.t 12)))]
abbrev N9:List AO:=
 [o1 14 (.fa 3 (.t 7)),o1 15 (.ld 1 false (.t 14)),o1 16 (.len (.t 15)),o1 17 (.mv (ci 0))]
abbrev N8:List AO:=
 [o1 18 (.bin .lss (.t 17) (.t 16))]
abbrev N7:List AO:=
 [(mt 19 17),o1 20 (.ia 5 (.t 15) (.t 17)),o1 21 (.ld 5 true (.t 20)),o1 9 (.al 60 [.n .i64 0,.n .i64 0,.n .i64 0,.n .i64 0,.n .u32 0]),
  (mt 8 19),
  (o3 (.st 5 (.t 9) (.t 21)))]
abbrev Oe:List (Nat×AO):=
 [(2,(o1 22 (.fa 3 (.t 7)))),
  (2,(mt 24 8)),
  (2,(mt 26 1)),(1,(o1 23 (.ld 1 false (.t 22)))),(1,(o1 25 (.ld 5 true (.t 9)))),
  (0,(o2 27 46 [.t 25,.t 26])),(2,(o1 28 (.ia 5 (.t 23) (.t 24)))),
  (3,(o3 (.st 5 (.t 28) (.t 27))))]
abbrev Og:AC:=
 (.seq (.reg N7) (.mix Oe))
abbrev N6:List AO:=
 [o1 29 (.bin .add (.t 17) (ci 1)),
  (mt 17 29)]
abbrev Oh:AC:=
 (.seq (.reg N8) (.seq (.cond (.t 18) .skip (.exit 0)) (.seq (.block 1 Og) (.reg N6))))
abbrev F0:AC:=
 (.loop Oh)
abbrev FZ:List AO:=
 [o1 30 (.ld 4 true (.t 7)),
  (o3 (.st 4 (.t 6) (.t 30)))]
abbrev Ru:AF:=⟨31,(.seq (.reg Oc) (.seq (.reg Ob) (.seq (.reg Oa) (.seq (.seq (.reg N9) (.block 0 F0)) (.seq (.reg FZ) .ret))))),[.ld 4 true (.t 6)]⟩
theorem Od:bF Try.prog (aB Try.prog 43) 43=some Ru:=by kernel_rfl
/-! allocate.Compact-/
abbrev N3:List AO:=
 [o1 1 (.bx 25 0 (.t 0)),o1 2 (.al 25 [.sl0,.n .i64 0,.n .i64 0,.sl0]),o1 3 (.mv (ci 0))]
abbrev N1:List AO:=
 [o1 10 (.ld 4 true (.t 1)),
  (o2 11 27 [.t 10]),
  (mt 9 11),o1 12 (.ext 0 (.t 9)),o1 13 (.ext 1 (.t 9)),
  (mt 4 12),
  (mt 5 13)]
abbrev N0:List AO:=
 [(mt 14 5),o1 15 (.bin .neq (.t 14) (ci 0))]
abbrev NZ:List AO:=
 [o1 16 (.bd [.sl0,.n .i64 0,.n .i64 0,.sl0] []),
  (mt 17 5),
  (o3 (.st 4 (.t 2) (.t 16))),
  (mt 3 17)]
abbrev NY:List AO:=
 [⟨some 18,none,.mo (.mm)⟩,
  (mt 6 18)]
abbrev NW:List AO:=
 [o1 19 (.fa 3 (.t 1)),o1 20 (.ld 1 false (.t 19)),
  (o2 21 52 [.t 20]),o1 22 (.len (.t 21)),o1 23 (.mv (ci 0))]
abbrev NV:List AO:=
 [o1 24 (.bin .lss (.t 23) (.t 22))]
abbrev NU:List AO:=
 [(mt 25 23),o1 26 (.ia 1 (.t 21) (.t 23)),o1 27 (.ld 1 false (.t 26)),
  (mt 7 25),
  (mt 8 27)]
abbrev NT:List AO:=
 [(mt 28 6),
  (mt 29 8),
  (mt 30 7),⟨none,none,.mo (.mu (.t 28) (.t 29) (.t 30))⟩]
abbrev N5:AC:=
 (.seq (.reg NU) (.reg NT))
abbrev FW:List AO:=
 [o1 31 (.bin .add (.t 23) (ci 1)),
  (mt 23 31)]
abbrev FY:AC:=
 (.seq (.reg NV) (.seq (.cond (.t 24) .skip (.exit 0)) (.seq (.block 1 N5) (.reg FW))))
abbrev FX:AC:=
 (.loop FY)
abbrev FV:List AO:=
 [o1 32 (.ld 4 true (.t 1)),
  (mt 33 6),
  (mt 34 6),⟨some 35,none,.mo (.ln (.t 34))⟩,
  (o2 36 43 [.t 32,.t 33,.t 35]),
  (o3 (.st 4 (.t 2) (.t 36))),o1 3 (.mv (ci 0))]
abbrev Rt:AF:=⟨37,(.seq (.reg N3) (.seq (.seq (.reg N1) (.seq (.reg N0) (.cond (.t 15) (.seq (.reg NZ) .ret) .skip))) (.seq (.reg NY) (.seq (.seq (.reg NW) (.block 0 FX)) (.seq (.reg FV) .ret))))),[.ld 4 true (.t 2),.mv (.t 3)]⟩
theorem N4:bF Try.prog (aB Try.prog 20) 20=some Rt:=by kernel_rfl
/-! allocate.interference-/
abbrev NQ:List AO:=
 [o1 2 (.mv (.c (.cv (.map none))))]
abbrev NP:List AO:=
 [⟨some 16,none,.mo (.mm)⟩,o1 3 (.al 117 [.cv (.map none)]),
  (o3 (.st 1 (.t 3) (.t 16)))]
abbrev NN:List AO:=
 [o1 17 (.mf 94 [] [.t 3]),
  (mt 4 17)]
abbrev NM:List AO:=
 [(mt 19 0),
  (o2 20 36 [.t 19]),
  (mt 18 20),o1 21 (.ext 0 (.t 18)),o1 22 (.ext 1 (.t 18)),
  (mt 5 21),
  (mt 6 22)]
abbrev NL:List AO:=
 [(mt 23 5),o1 24 (.ia 1 (.t 23) (ci 0)),o1 25 (.ld 1 false (.t 24)),⟨some 26,none,.mo (.rg (.t 25))⟩]
abbrev NK:List AO:=
 [⟨some 27,none,.mo (.nx (.t 26))⟩,o1 28 (.ext 0 (.t 27))]
abbrev NJ:List AO:=
 [⟨some 29,none,.mo (.en (.t 26))⟩,o1 30 (.ext 0 (.t 29)),
  (mt 7 30)]
abbrev NI:List AO:=
 [(mt 31 5),o1 32 (.ia 1 (.t 31) (ci 0)),o1 33 (.ld 1 false (.t 32)),⟨some 34,none,.mo (.rg (.t 33))⟩]
abbrev NH:List AO:=
 [⟨some 35,none,.mo (.nx (.t 34))⟩,o1 36 (.ext 0 (.t 35))]
abbrev NG:List AO:=
 [⟨some 37,none,.mo (.en (.t 34))⟩,o1 38 (.ext 0 (.t 37)),
  (mt 8 38)]
abbrev FH:List AO:=
 [(mt 39 7),
  (mt 40 8),o1 41 (.bin .neq (.t 39) (.t 40))]
abbrev FG:List AO:=
 [(mt 42 4),
  (mt 43 7),
  (mt 44 8),⟨some 45,none,.cl (.t 42) [.t 43,.t 44]⟩]
abbrev FP:AC:=
 (.seq (.reg NG) (.seq (.reg FH) (.cond (.t 41) (.reg FG) .skip)))
abbrev FU:AC:=
 (.seq (.reg NH) (.seq (.cond (.t 36) .skip (.exit 2)) (.block 3 FP)))
abbrev FO:AC:=
 (.loop FU)
abbrev FN:AC:=
 (.seq (.reg NJ) (.seq (.reg NI) (.block 2 FO)))
abbrev FT:AC:=
 (.seq (.reg NK) (.seq (.cond (.t 28) .skip (.exit 0)) (.block 1 FN)))
abbrev wL:AC:=
 (.loop FT)
abbrev FF:List AO:=
 [(mt 46 0),o1 47 (.len (.t 46)),o1 48 (.mv (ci 0))]
abbrev FE:List AO:=
 [o1 49 (.bin .lss (.t 48) (.t 47))]
abbrev FD:List AO:=
 [(mt 50 48),o1 51 (.ia 5 (.t 46) (.t 48)),o1 52 (.ld 5 true (.t 51)),o1 10 (.al 60 [.n .i64 0,.n .i64 0,.n .i64 0,.n .i64 0,.n .u32 0]),
  (mt 9 50),
  (o3 (.st 5 (.t 10) (.t 52)))]
abbrev FC:List AO:=
 [o1 54 (.ld 5 true (.t 10)),
  (o2 55 68 [.t 54]),
  (mt 53 55),o1 56 (.ext 0 (.t 53)),o1 57 (.ext 1 (.t 53)),
  (mt 11 56),
  (mt 12 57)]
abbrev FB:List AO:=
 [(mt 58 6),
  (mt 59 9),o1 60 (.ia 1 (.t 58) (.t 59)),o1 61 (.ld 1 false (.t 60)),o1 62 (.len (.t 61)),o1 63 (.mv (ci 0))]
abbrev FA:List AO:=
 [o1 64 (.bin .lss (.t 63) (.t 62))]
abbrev Fy:List AO:=
 [o1 65 (.ia 1 (.t 61) (.t 63)),o1 66 (.ld 1 false (.t 65)),
  (mt 14 66)]
abbrev Fx:List AO:=
 [(mt 67 5),
  (mt 68 14),o1 69 (.ia 1 (.t 67) (.t 68)),o1 70 (.ld 1 false (.t 69)),⟨some 71,none,.mo (.rg (.t 70))⟩]
abbrev Fw:List AO:=
 [⟨some 72,none,.mo (.nx (.t 71))⟩,o1 73 (.ext 0 (.t 72))]
abbrev Fv:List AO:=
 [⟨some 74,none,.mo (.en (.t 71))⟩,o1 75 (.ext 0 (.t 74)),
  (mt 15 75)]
abbrev Fu:List AO:=
 [(mt 76 12),o1 77 (.bin .geq (.t 76) (ci 0)),
  (mt 78 77),
  (o5 79 78 (.mv (.t 15))),
  (o5 80 78 (.mv (.t 12))),
  (o5 81 78 (.bin .neq (.t 79) (.t 80))),o1 82 (.pick (.t 78) (.t 81) (.c (.b false)))]
abbrev Ft:List AO:=
 [(mt 83 4),
  (mt 84 12),
  (mt 85 15),⟨some 86,none,.cl (.t 83) [.t 84,.t 85]⟩]
abbrev FM:AC:=
 (.seq (.reg Fv) (.seq (.reg Fu) (.cond (.t 82) (.reg Ft) .skip)))
abbrev FS:AC:=
 (.seq (.reg Fw) (.seq (.cond (.t 73) .skip (.exit 8)) (.block 9 FM)))
abbrev FL:AC:=
 (.loop FS)
abbrev FK:AC:=
 (.seq (.reg Fy) (.seq (.reg Fx) (.block 8 FL)))
abbrev Fs:List AO:=
 [o1 87 (.bin .add (.t 63) (ci 1)),
  (mt 63 87)]
abbrev FR:AC:=
 (.seq (.reg FA) (.seq (.cond (.t 64) .skip (.exit 6)) (.seq (.block 7 FK) (.reg Fs))))
abbrev FJ:AC:=
 (.loop FR)
abbrev FI:AC:=
 (.seq (.reg FD) (.seq (.reg FC) (.seq (.reg FB) (.block 6 FJ))))
abbrev Fq:List AO:=
 [o1 88 (.bin .add (.t 48) (ci 1)),
  (mt 48 88)]
abbrev FQ:AC:=
 (.seq (.reg FE) (.seq (.cond (.t 49) .skip (.exit 4)) (.seq (.block 5 FI) (.reg Fq))))
abbrev wK:AC:=
 (.loop FQ)
abbrev Fp:List AO:=
 [o1 89 (.ld 1 false (.t 3)),
  (mt 2 89)]
abbrev Rs:AF:=⟨90,(.seq (.reg NQ) (.seq (.reg NP) (.seq (.reg NN) (.seq (.reg NM) (.seq (.seq (.reg NL) (.block 0 wL)) (.seq (.seq (.reg FF) (.block 4 wK)) (.seq (.reg Fp) .ret))))))),[.mv (.t 2)]⟩
theorem NS:bF Try.prog (aB Try.prog 74) 74=some Rs:=by kernel_rfl
/-! allocate.interference$1-/
abbrev Ny:List AO:=
 [(mt 7 0),
  (mt 8 1),o1 9 (.bd [.n .i64 0,.n .i64 0] [(0,1,(.t 7)),(1,1,(.t 8))]),
  (mt 10 1),
  (mt 11 0),o1 12 (.bd [.n .i64 0,.n .i64 0] [(0,1,(.t 10)),(1,1,(.t 11))]),o1 13 (.bs 142 2 2 [.n .i64 0,.n .i64 0,.n .i64 0,.n .i64 0] [(0,2,(.t 9)),(2,2,(.t 12))]),o1 14 (.len (.t 13)),o1 15 (.mv (ci 0))]
abbrev Nx:List AO:=
 [o1 16 (.bin .lss (.t 15) (.t 14))]
abbrev Nw:List AO:=
 [o1 17 (.ia 2 (.t 13) (.t 15)),o1 18 (.ld 2 true (.t 17)),o1 6 (.al 142 [.n .i64 0,.n .i64 0]),
  (o3 (.st 2 (.t 6) (.t 18)))]
abbrev Nv:List AO:=
 [o1 19 (.ld 1 false (.t 2)),o1 20 (.iaa 2 1 (.t 6) (ci 0)),o1 21 (.ld 1 false (.t 20)),⟨some 22,none,.mo (.lk (.cv (.map none)) false (.t 19) (.t 21))⟩,⟨some 23,none,.mo (.mn false (.t 22))⟩]
abbrev Nu:List AO:=
 [o1 24 (.ld 1 false (.t 2)),o1 25 (.iaa 2 1 (.t 6) (ci 0)),o1 26 (.ld 1 false (.t 25)),⟨some 27,none,.mo (.mm)⟩,⟨none,none,.mo (.mu (.t 24) (.t 26) (.t 27))⟩]
abbrev Nt:List AO:=
 [o1 28 (.ld 1 false (.t 2)),o1 29 (.iaa 2 1 (.t 6) (ci 0)),o1 30 (.ld 1 false (.t 29)),⟨some 31,none,.mo (.lk (.cv (.map none)) false (.t 28) (.t 30))⟩,o1 32 (.iaa 2 1 (.t 6) (ci 1)),o1 33 (.ld 1 false (.t 32)),⟨none,none,.mo (.mu (.t 31) (.t 33) (.c (.b true)))⟩]
abbrev ND:AC:=
 (.seq (.reg Nw) (.seq (.seq (.reg Nv) (.cond (.t 23) (.reg Nu) .skip)) (.reg Nt)))
abbrev Ns:List AO:=
 [o1 34 (.bin .add (.t 15) (ci 1)),
  (mt 15 34)]
abbrev NF:AC:=
 (.seq (.reg Nx) (.seq (.cond (.t 16) .skip (.exit 0)) (.seq (.block 1 ND) (.reg Ns))))
abbrev NC:AC:=
 (.loop NF)
abbrev Rr:AF:=⟨35,(.seq (.reg Ny) (.block 0 NC)),[]⟩
theorem Nz:bF Try.prog (aB Try.prog 94) 94=some Rr:=by kernel_rfl
/-! allocate.spiller.cell-/
abbrev Np:List AO:=
 [o1 2 (.bx 83 0 (.t 0)),o1 4 (.mv (.c (.n .u32 0))),o1 5 (.mv (.c (.b false)))]
abbrev Nr:List (Nat×AO):=
 [(2,(o1 6 (.fa 1 (.t 2)))),
  (2,(mt 8 1)),(2,(o1 10 (.fa 0 (.t 2)))),
  (2,(mt 14 1)),(2,(o1 15 (.fa 0 (.t 2)))),(1,(o1 7 (.ld 1 false (.t 6)))),(2,(o1 9 (.bin .add (.t 7) (.t 8)))),(1,(o1 11 (.ld 1 false (.t 10)))),(2,(o1 12 (.bin .sub (.t 9) (.t 11)))),(2,(o1 13 (.cvi .u32 (.t 12)))),
  (2,(mt 4 13)),(1,(o1 16 (.ld 1 false (.t 15)))),(2,(o1 17 (.bin .geq (.t 14) (.t 16)))),
  (2,(mt 5 17))]
abbrev Rq:AF:=⟨18,(.seq (.reg Np) (.seq (.mix Nr) .ret)),[.mv (.t 4),.mv (.t 5)]⟩
theorem Nq:bF Try.prog (aB Try.prog 76) 76=some Rq:=by kernel_rfl
/-! allocate.sequence-/
abbrev Nm:List AO:=
 [o1 2 (.mv (.c .sl0))]
abbrev Nl:List AO:=
 [(mt 3 0),
  (mt 2 3)]
abbrev Rp:AF:=⟨4,(.seq (.reg Nm) (.seq (.reg Nl) .ret)),[.mv (.t 2)]⟩
theorem Nn:bF Try.prog (aB Try.prog 77) 77=some Rp:=by kernel_rfl
/-! allocate.spiller.rewrite-/
abbrev Nh:List AO:=
 [o1 2 (.bx 83 0 (.t 0)),o1 3 (.bx 60 0 (.t 1)),o1 4 (.mv (.c .sl0))]
abbrev Ng:List AO:=
 [o1 5 (.mv (.c .sl0)),o1 6 (.mv (.c .sl0))]
abbrev Nf:List AO:=
 [o1 13 (.fa 2 (.t 3)),o1 14 (.fa 3 (.t 3)),o1 15 (.bs 120 1 2 [.p0,.p0] [(0,1,(.t 13)),(1,1,(.t 14))]),o1 16 (.len (.t 15)),o1 17 (.mv (ci 0))]
abbrev Nd:List AO:=
 [o1 18 (.bin .lss (.t 17) (.t 16))]
abbrev Nc:List AO:=
 [(mt 19 17),o1 20 (.ia 1 (.t 15) (.t 17)),o1 21 (.ld 1 false (.t 20)),
  (mt 7 19),
  (mt 8 21)]
abbrev Nj:List (Nat×AO):=
 [(2,(mt 24 8)),(2,(o1 25 (.nc (.t 24)))),(1,(o1 23 (.ld 2 true (.t 2)))),(1,(o1 26 (.ld 1 false (.t 25)))),
  (3,(o2 27 76 [.t 23,.t 26])),
  (2,(mt 22 27)),(2,(o1 28 (.ext 0 (.t 22)))),(2,(o1 29 (.ext 1 (.t 22)))),
  (2,(mt 9 28)),
  (2,(mt 10 29))]
abbrev Nb:List AO:=
 [(mt 30 10)]
abbrev Na:List AO:=
 [(mt 31 8),o1 32 (.fa 0 (.t 2)),o1 33 (.ld 1 false (.t 32)),
  (mt 34 7),o1 35 (.bin .add (.t 33) (.t 34)),o1 36 (.nc (.t 31)),
  (o3 (.st 1 (.t 36) (.t 35)))]
abbrev M9:List AO:=
 [(mt 37 5),
  (mt 38 8),o1 39 (.nc (.t 38)),o1 40 (.ld 1 false (.t 39)),
  (mt 41 9),o1 42 (.bd [.n .i64 0,.n .i64 0,.n .i64 0,.n .i64 0,.n .u32 0] [(0,1,(ci 38)),(1,1,(.t 40)),(2,1,(.c (.n .i64 (-1)))),(3,1,(.c (.n .i64 (-1)))),(4,1,(.t 41))]),o1 43 (.bs 60 5 1 [.n .i64 0,.n .i64 0,.n .i64 0,.n .i64 0,.n .u32 0] [(0,5,(.t 42))]),o1 44 (.app 60 5 40 (.t 37) (.t 43)),
  (mt 5 44)]
abbrev Nk:AC:=
 (.seq (.reg Nc) (.seq (.mix Nj) (.seq (.reg Nb) (.cond (.t 30) (.seq (.reg Na) (.reg M9)) .skip))))
abbrev Fl:List AO:=
 [o1 45 (.bin .add (.t 17) (ci 1)),
  (mt 17 45)]
abbrev Fo:AC:=
 (.seq (.reg Nd) (.seq (.cond (.t 18) .skip (.exit 0)) (.seq (.block 1 Nk) (.reg Fl))))
abbrev Fm:AC:=
 (.loop Fo)
abbrev Fk:List AO:=
 [o1 47 (.ld 2 true (.t 2)),o1 48 (.fa 1 (.t 3)),o1 49 (.ld 1 false (.t 48)),
  (o2 50 76 [.t 47,.t 49]),
  (mt 46 50),o1 51 (.ext 0 (.t 46)),o1 52 (.ext 1 (.t 46)),
  (mt 11 51),
  (mt 12 52)]
abbrev Fj:List AO:=
 [(mt 53 12)]
abbrev Fi:List AO:=
 [o1 54 (.fa 0 (.t 2)),o1 55 (.ld 1 false (.t 54)),o1 56 (.bin .add (.t 55) (ci 2)),o1 57 (.fa 1 (.t 3)),
  (o3 (.st 1 (.t 57) (.t 56)))]
abbrev Fh:List AO:=
 [o1 58 (.fa 1 (.t 3)),o1 59 (.ld 1 false (.t 58)),
  (mt 60 11),o1 61 (.bd [.n .i64 0,.n .i64 0,.n .i64 0,.n .i64 0,.n .u32 0] [(0,1,(ci 37)),(1,1,(.c (.n .i64 (-1)))),(2,1,(.t 59)),(3,1,(.c (.n .i64 (-1)))),(4,1,(.t 60))]),o1 62 (.bs 60 5 1 [.n .i64 0,.n .i64 0,.n .i64 0,.n .i64 0,.n .u32 0] [(0,5,(.t 61))]),
  (o2 63 77 [.t 62]),
  (mt 6 63)]
abbrev wJ:List AO:=
 [(mt 64 5),o1 65 (.ld 5 true (.t 3)),o1 66 (.bs 60 5 1 [.n .i64 0,.n .i64 0,.n .i64 0,.n .i64 0,.n .u32 0] [(0,5,(.t 65))]),
  (o2 67 77 [.t 66]),
  (mt 68 6),o1 69 (.bs 23 1 3 [.sl0,.sl0,.sl0] [(0,1,(.t 64)),(1,1,(.t 67)),(2,1,(.t 68))]),
  (o2 70 78 [.t 69]),
  (mt 4 70)]
abbrev Ro:AF:=⟨71,(.seq (.reg Nh) (.seq (.reg Ng) (.seq (.seq (.reg Nf) (.block 0 Fm)) (.seq (.seq (.reg Fk) (.seq (.reg Fj) (.cond (.t 53) (.seq (.reg Fi) (.reg Fh)) .skip))) (.seq (.reg wJ) .ret))))),[.mv (.t 4)]⟩
theorem Ni:bF Try.prog (aB Try.prog 45) 45=some Ro:=by kernel_rfl
/-! allocate.Allocate-/
abbrev M8:List AO:=
 [o1 2 (.bx 25 0 (.t 0)),o1 4 (.al 25 [.sl0,.n .i64 0,.n .i64 0,.sl0]),o1 5 (.mv (ci 0))]
abbrev M7:List AO:=
 [o1 15 (.ld 4 true (.t 2)),
  (o2 16 27 [.t 15]),
  (mt 14 16),o1 17 (.ext 0 (.t 14)),o1 18 (.ext 1 (.t 14)),
  (mt 6 17),
  (mt 7 18)]
abbrev M6:List AO:=
 [(mt 19 7),o1 20 (.bin .neq (.t 19) (ci 0))]
abbrev M5:List AO:=
 [o1 21 (.bd [.sl0,.n .i64 0,.n .i64 0,.sl0] []),
  (mt 22 7),
  (o3 (.st 4 (.t 4) (.t 21))),
  (mt 5 22)]
abbrev M4:List AO:=
 [(mt 23 1),o1 24 (.bin .lss (.t 23) (ci 4)),
  (mt 25 24),
  (o4 26 25 (.mv (.t 1))),
  (o4 27 25 (.bin .gtr (.t 26) (ci 1024))),o1 28 (.pick (.t 25) (.c (.b true)) (.t 27))]
abbrev M3:List AO:=
 [o1 29 (.bd [.sl0,.n .i64 0,.n .i64 0,.sl0] []),
  (o3 (.st 4 (.t 4) (.t 29))),o1 5 (.mv (ci 2))]
abbrev M2:List AO:=
 [o1 31 (.fa 3 (.t 2)),o1 32 (.ld 1 false (.t 31)),
  (o2 33 42 [.t 32]),
  (mt 30 33),o1 34 (.ext 0 (.t 30)),o1 35 (.ext 1 (.t 30)),
  (mt 8 34),
  (mt 9 35)]
abbrev M1:List AO:=
 [(mt 36 9),
  (mt 37 1),o1 38 (.bin .leq (.t 36) (.t 37))]
abbrev M0:List AO:=
 [o1 39 (.ld 4 true (.t 2)),
  (mt 40 8),
  (mt 41 9),
  (o2 42 43 [.t 39,.t 40,.t 41]),
  (o3 (.st 4 (.t 4) (.t 42))),o1 5 (.mv (ci 0))]
abbrev MZ:List AO:=
 [(mt 43 1),o1 44 (.bin .sub (.t 43) (ci 3)),o1 45 (.fa 2 (.t 2)),o1 46 (.ld 1 false (.t 45)),o1 47 (.bd [.n .i64 0,.n .i64 0] [(0,1,(.t 44)),(1,1,(.t 46))]),o1 10 (.al 83 [.n .i64 0,.n .i64 0]),
  (o3 (.st 2 (.t 10) (.t 47)))]
abbrev Fb:List AO:=
 [o1 48 (.ld 4 true (.t 2)),
  (o2 49 44 [.t 48]),o1 11 (.al 25 [.sl0,.n .i64 0,.n .i64 0,.sl0]),
  (o3 (.st 4 (.t 11) (.t 49)))]
abbrev Fd:List (Nat×AO):=
 [(2,(mt 50 1)),(2,(o1 51 (.fa 2 (.t 2)))),
  (2,(mt 53 9)),(2,(o1 55 (.fa 0 (.t 10)))),(2,(o1 58 (.fa 1 (.t 11)))),(1,(o1 52 (.ld 1 false (.t 51)))),(2,(o1 54 (.bin .add (.t 52) (.t 53)))),(1,(o1 56 (.ld 1 false (.t 55)))),(2,(o1 57 (.bin .sub (.t 54) (.t 56)))),
  (0,(o3 (.st 1 (.t 58) (.t 50)))),(2,(o1 59 (.fa 2 (.t 11)))),
  (3,(o3 (.st 1 (.t 59) (.t 57)))),(2,(o1 60 (.fa 3 (.t 11)))),
  (3,(o3 (.st 1 (.t 60) (.c .sl0))))]
abbrev Fa:List AO:=
 [o1 61 (.fa 3 (.t 2)),o1 62 (.ld 1 false (.t 61)),o1 63 (.len (.t 62)),o1 64 (.mv (ci 0))]
abbrev E9:List AO:=
 [o1 65 (.bin .lss (.t 64) (.t 63))]
abbrev E8:List AO:=
 [o1 66 (.ia 5 (.t 62) (.t 64)),o1 67 (.ld 5 true (.t 66)),o1 13 (.al 60 [.n .i64 0,.n .i64 0,.n .i64 0,.n .i64 0,.n .u32 0]),
  (o3 (.st 5 (.t 13) (.t 67)))]
abbrev Fc:List (Nat×AO):=
 [(2,(o1 68 (.fa 3 (.t 11)))),
  (2,(mt 72 8)),(1,(o1 69 (.ld 1 false (.t 68)))),(1,(o1 70 (.ld 2 true (.t 10)))),(1,(o1 71 (.ld 5 true (.t 13)))),
  (0,(o2 73 46 [.t 71,.t 72])),
  (0,(o2 74 45 [.t 70,.t 73])),(3,(o1 75 (.app 60 5 40 (.t 69) (.t 74)))),(2,(o1 76 (.fa 3 (.t 11)))),
  (3,(o3 (.st 1 (.t 76) (.t 75))))]
abbrev Ff:AC:=
 (.seq (.reg E8) (.mix Fc))
abbrev E7:List AO:=
 [o1 77 (.bin .add (.t 64) (ci 1)),
  (mt 64 77)]
abbrev Fg:AC:=
 (.seq (.reg E9) (.seq (.cond (.t 65) .skip (.exit 0)) (.seq (.block 1 Ff) (.reg E7))))
abbrev Fe:AC:=
 (.loop Fg)
abbrev E6:List AO:=
 [o1 78 (.fa 2 (.t 11)),o1 79 (.ld 1 false (.t 78)),o1 80 (.bin .gtr (.t 79) (ci 1024)),
  (mt 81 80),
  (o4 82 81 (.fa 3 (.t 11))),
  (o4 83 81 (.ld 1 false (.t 82))),
  (o4 84 81 (.len (.t 83))),
  (o4 85 81 (.bin .gtr (.t 84) (ci 16384))),o1 86 (.pick (.t 81) (.c (.b true)) (.t 85))]
abbrev E5:List AO:=
 [o1 87 (.bd [.sl0,.n .i64 0,.n .i64 0,.sl0] []),
  (o3 (.st 4 (.t 4) (.t 87))),o1 5 (.mv (ci 6))]
abbrev E4:List AO:=
 [o1 88 (.ld 4 true (.t 11)),
  (o3 (.st 4 (.t 4) (.t 88))),o1 5 (.mv (ci 0))]
abbrev Rn:AF:=⟨89,(.seq (.reg M8) (.seq (.seq (.reg M7) (.seq (.reg M6) (.cond (.t 20) (.seq (.reg M5) .ret) .skip))) (.seq (.seq (.reg M4) (.cond (.t 28) (.seq (.reg M3) .ret) .skip)) (.seq (.reg M2) (.seq (.seq (.reg M1) (.cond (.t 38) (.seq (.reg M0) .ret) .skip)) (.seq (.reg MZ) (.seq (.reg Fb) (.seq (.mix Fd) (.seq (.seq (.reg Fa) (.block 0 Fe)) (.seq (.seq (.reg E6) (.cond (.t 86) (.seq (.reg E5) .ret) .skip)) (.seq (.reg E4) .ret))))))))))),[.ld 4 true (.t 4),.mv (.t 5)]⟩
theorem Cj:bF Try.prog (aB Try.prog 17) 17=some Rn:=by kernel_rfl
/-! allocate.Live-/
abbrev MY:List AO:=
 [o1 1 (.bx 25 0 (.t 0)),o1 2 (.mv (.c .sl0)),o1 3 (.mv (ci 0))]
abbrev MX:List AO:=
 [o1 12 (.ld 4 true (.t 1)),
  (o2 13 27 [.t 12]),
  (mt 11 13),o1 14 (.ext 0 (.t 11)),o1 15 (.ext 1 (.t 11)),
  (mt 4 14),
  (mt 5 15)]
abbrev MW:List AO:=
 [(mt 16 5),o1 17 (.bin .neq (.t 16) (ci 0))]
abbrev MV:List AO:=
 [(mt 18 5),o1 2 (.mv (.c .sl0)),
  (mt 3 18)]
abbrev MU:List AO:=
 [o1 20 (.fa 3 (.t 1)),o1 21 (.ld 1 false (.t 20)),
  (o2 22 36 [.t 21]),
  (mt 19 22),o1 23 (.ext 0 (.t 19)),o1 24 (.ext 1 (.t 19)),
  (mt 6 23),
  (mt 7 24)]
abbrev MT:List AO:=
 [o1 8 (.mv (.c .sl0))]
abbrev MS:List AO:=
 [(mt 25 6),o1 26 (.len (.t 25)),o1 27 (.mv (ci 0))]
abbrev MR:List AO:=
 [o1 28 (.bin .lss (.t 27) (.t 26))]
abbrev MQ:List AO:=
 [o1 29 (.ia 1 (.t 25) (.t 27)),o1 30 (.ld 1 false (.t 29)),
  (mt 10 30)]
abbrev MP:List AO:=
 [(mt 31 8),
  (mt 32 10),
  (o2 33 38 [.t 32]),
  (o2 34 37 [.t 33]),o1 35 (.bs 39 1 1 [.sl0] [(0,1,(.t 34))]),o1 36 (.app 39 1 24 (.t 31) (.t 35)),
  (mt 8 36)]
abbrev E1:AC:=
 (.seq (.reg MQ) (.reg MP))
abbrev EZ:List AO:=
 [o1 37 (.bin .add (.t 27) (ci 1)),
  (mt 27 37)]
abbrev E3:AC:=
 (.seq (.reg MR) (.seq (.cond (.t 28) .skip (.exit 0)) (.seq (.block 1 E1) (.reg EZ))))
abbrev E0:AC:=
 (.loop E3)
abbrev EY:List AO:=
 [(mt 38 8),
  (mt 2 38),o1 3 (.mv (ci 0))]
abbrev Rm:AF:=⟨39,(.seq (.reg MY) (.seq (.seq (.reg MX) (.seq (.reg MW) (.cond (.t 17) (.seq (.reg MV) .ret) .skip))) (.seq (.reg MU) (.seq (.reg MT) (.seq (.seq (.reg MS) (.block 0 E0)) (.seq (.reg EY) .ret)))))),[.mv (.t 2),.mv (.t 3)]⟩
theorem Ci:bF Try.prog (aB Try.prog 11) 11=some Rm:=by kernel_rfl
/-! slices.Concat[[]api.RegInstr,api.RegInstr]-/
abbrev MJ:List AO:=
 [o1 2 (.mv (.c .sl0))]
abbrev MI:List AO:=
 [o1 3 (.mv (ci 0))]
abbrev MH:List AO:=
 [(mt 9 0),o1 10 (.len (.t 9)),o1 11 (.mv (ci 0))]
abbrev MG:List AO:=
 [o1 12 (.bin .lss (.t 11) (.t 10))]
abbrev MF:List AO:=
 [o1 13 (.ia 1 (.t 9) (.t 11)),o1 14 (.ld 1 false (.t 13)),
  (mt 5 14)]
abbrev ME:List AO:=
 [(mt 15 3),
  (mt 16 5),o1 17 (.len (.t 16)),o1 18 (.bin .add (.t 15) (.t 17)),
  (mt 3 18)]
abbrev MD:List AO:=
 [(mt 19 3),o1 20 (.bin .lss (.t 19) (ci 0))]
abbrev MM:AC:=
 (.seq (.reg MF) (.seq (.reg ME) (.seq (.reg MD) (.cond (.t 20) .die .skip))))
abbrev MC:List AO:=
 [o1 22 (.bin .add (.t 11) (ci 1)),
  (mt 11 22)]
abbrev MN:AC:=
 (.seq (.reg MG) (.seq (.cond (.t 12) .skip (.exit 0)) (.seq (.block 1 MM) (.reg MC))))
abbrev EW:AC:=
 (.loop MN)
abbrev ET:List AO:=
 [(mt 23 3),
  (o2 24 95 [(.c .sl0),.t 23]),
  (mt 6 24)]
abbrev ES:List AO:=
 [(mt 25 0),o1 26 (.len (.t 25)),o1 27 (.mv (ci 0))]
abbrev EP:List AO:=
 [o1 28 (.bin .lss (.t 27) (.t 26))]
abbrev EO:List AO:=
 [o1 29 (.ia 1 (.t 25) (.t 27)),o1 30 (.ld 1 false (.t 29)),
  (mt 8 30)]
abbrev EM:List AO:=
 [(mt 31 6),
  (mt 32 8),o1 33 (.app 60 5 40 (.t 31) (.t 32)),
  (mt 6 33)]
abbrev EV:AC:=
 (.seq (.reg EO) (.reg EM))
abbrev EL:List AO:=
 [o1 34 (.bin .add (.t 27) (ci 1)),
  (mt 27 34)]
abbrev EX:AC:=
 (.seq (.reg EP) (.seq (.cond (.t 28) .skip (.exit 2)) (.seq (.block 3 EV) (.reg EL))))
abbrev EU:AC:=
 (.loop EX)
abbrev EK:List AO:=
 [(mt 35 6),
  (mt 2 35)]
abbrev Ra:AF:=⟨36,(.seq (.reg MJ) (.seq (.reg MI) (.seq (.seq (.reg MH) (.block 0 EW)) (.seq (.reg ET) (.seq (.seq (.reg ES) (.block 2 EU)) (.seq (.reg EK) .ret)))))),[.mv (.t 2)]⟩
theorem ML:bF Try.prog (aB Try.prog 78) 78=some Ra:=by kernel_rfl
/-! slices.Grow[[]api.RegInstr,api.RegInstr]-/
abbrev MA:List AO:=
 [o1 4 (.mv (.c .sl0))]
abbrev Mz:List AO:=
 [(mt 5 1),o1 6 (.bin .lss (.t 5) (ci 0))]
abbrev My:List AO:=
 [(mt 8 1),
  (mt 9 0),o1 10 (.cpc (.t 9)),
  (mt 11 0),o1 12 (.len (.t 11)),o1 13 (.bin .sub (.t 10) (.t 12)),o1 14 (.bin .sub (.t 8) (.t 13)),
  (mt 1 14)]
abbrev Mx:List AO:=
 [(mt 15 1),o1 16 (.bin .gtr (.t 15) (ci 0))]
abbrev Mw:List AO:=
 [(mt 17 0),
  (mt 18 0),o1 19 (.cpc (.t 18)),o1 20 (.sl 5 (.t 17) none (some (.t 19))),
  (mt 21 1),o1 22 (.apm 60 5 40 [.n .i64 0,.n .i64 0,.n .i64 0,.n .i64 0,.n .u32 0] (.t 20) (.t 21)),
  (mt 23 0),o1 24 (.len (.t 23)),o1 25 (.sl 5 (.t 22) none (some (.t 24))),
  (mt 0 25)]
abbrev Mv:List AO:=
 [(mt 26 0),
  (mt 4 26)]
abbrev Q9:AF:=⟨27,(.seq (.reg MA) (.seq (.seq (.reg Mz) (.cond (.t 6) .die .skip)) (.seq (.seq (.reg My) (.seq (.reg Mx) (.cond (.t 16) (.reg Mw) .skip))) (.seq (.reg Mv) .ret)))),[.mv (.t 4)]⟩
theorem MB:bF Try.prog (aB Try.prog 95) 95=some Q9:=by kernel_rfl
/-! slices.DeleteFunc[[]api.RegInstr,api.RegInstr]-/
/-! allocate.liveness-/
abbrev Mr:List AO:=
 [o1 2 (.mv (.c .sl0)),o1 3 (.mv (.c .sl0))]
abbrev Mq:List AO:=
 [(mt 18 0),
  (o2 19 66 [.t 18]),o1 4 (.al 28 [.sl0]),
  (o3 (.st 1 (.t 4) (.t 19)))]
abbrev Mp:List AO:=
 [(mt 20 0),o1 21 (.len (.t 20)),o1 22 (.bin .add (.t 21) (ci 1)),o1 23 (.ms 70 1 8 [.cv (.map none)] (.t 22) (.t 22)),o1 5 (.al 66 [.sl0]),
  (o3 (.st 1 (.t 5) (.t 23)))]
abbrev Mo:List AO:=
 [o1 24 (.ld 1 false (.t 5)),o1 25 (.len (.t 24)),o1 26 (.mv (ci 0))]
abbrev Mn:List AO:=
 [o1 27 (.bin .lss (.t 26) (.t 25))]
abbrev Mm:List AO:=
 [(mt 28 26),
  (mt 6 28)]
abbrev Ml:List AO:=
 [o1 29 (.ld 1 false (.t 5)),
  (mt 30 6),⟨some 31,none,.mo (.mm)⟩,o1 32 (.ia 1 (.t 29) (.t 30)),
  (o3 (.st 1 (.t 32) (.t 31)))]
abbrev Mt:AC:=
 (.seq (.reg Mm) (.reg Ml))
abbrev Mj:List AO:=
 [o1 33 (.bin .add (.t 26) (ci 1)),
  (mt 26 33)]
abbrev Mu:AC:=
 (.seq (.reg Mn) (.seq (.cond (.t 27) .skip (.exit 0)) (.seq (.block 1 Mt) (.reg Mj))))
abbrev EF:AC:=
 (.loop Mu)
abbrev Et:List AO:=
 [o1 7 (.al 4 [.b false]),
  (o3 (.st 1 (.t 7) (.c (.b true))))]
abbrev Es:List AO:=
 [o1 34 (.ld 1 false (.t 7))]
abbrev Er:List AO:=
 [(o3 (.st 1 (.t 7) (.c (.b false))))]
abbrev Ep:List AO:=
 [(mt 35 0),
  (o2 36 67 [.t 35])]
abbrev Eo:List AO:=
 [(mt 8 37)]
abbrev En:List AO:=
 [o1 9 (.al 60 [.n .i64 0,.n .i64 0,.n .i64 0,.n .i64 0,.n .u32 0]),
  (o3 (.st 5 (.t 9) (.t 38)))]
abbrev Em:List AO:=
 [o1 39 (.ld 1 false (.t 5)),
  (mt 40 8),o1 41 (.ia 1 (.t 39) (.t 40)),o1 42 (.ld 1 false (.t 41)),⟨some 43,none,.mo (.ln (.t 42))⟩,
  (mt 10 43)]
abbrev El:List AO:=
 [o1 45 (.ld 5 true (.t 9)),
  (o2 46 68 [.t 45]),
  (mt 44 46),o1 47 (.ext 0 (.t 44)),o1 48 (.ext 1 (.t 44)),
  (mt 11 47),
  (mt 12 48)]
abbrev Ek:List AO:=
 [o1 49 (.ld 1 false (.t 4)),
  (mt 50 8),o1 51 (.ia 1 (.t 49) (.t 50)),o1 52 (.ld 1 false (.t 51)),o1 53 (.len (.t 52)),o1 54 (.mv (ci 0))]
abbrev Ej:List AO:=
 [o1 55 (.bin .lss (.t 54) (.t 53))]
abbrev Ei:List AO:=
 [o1 56 (.ia 1 (.t 52) (.t 54)),o1 57 (.ld 1 false (.t 56)),
  (mt 14 57)]
abbrev Eh:List AO:=
 [o1 58 (.ld 1 false (.t 5)),
  (mt 59 14),o1 60 (.ia 1 (.t 58) (.t 59)),o1 61 (.ld 1 false (.t 60)),⟨some 62,none,.mo (.rg (.t 61))⟩]
abbrev Eg:List AO:=
 [⟨some 63,none,.mo (.nx (.t 62))⟩,o1 64 (.ext 0 (.t 63))]
abbrev Ef:List AO:=
 [⟨some 65,none,.mo (.en (.t 62))⟩,o1 66 (.ext 0 (.t 65)),
  (mt 15 66)]
abbrev Ee:List AO:=
 [(mt 67 15),
  (mt 68 12),o1 69 (.bin .neq (.t 67) (.t 68))]
abbrev Ed:List AO:=
 [o1 70 (.ld 1 false (.t 5)),
  (mt 71 8),o1 72 (.ia 1 (.t 70) (.t 71)),o1 73 (.ld 1 false (.t 72)),
  (mt 74 15),⟨none,none,.mo (.mu (.t 73) (.t 74) (.c (.b true)))⟩]
abbrev EE:AC:=
 (.seq (.reg Ef) (.seq (.reg Ee) (.cond (.t 69) (.reg Ed) .skip)))
abbrev EJ:AC:=
 (.seq (.reg Eg) (.seq (.cond (.t 64) .skip (.exit 8)) (.block 9 EE)))
abbrev ED:AC:=
 (.loop EJ)
abbrev EC:AC:=
 (.seq (.reg Ei) (.seq (.reg Eh) (.block 8 ED)))
abbrev Ec:List AO:=
 [o1 75 (.bin .add (.t 54) (ci 1)),
  (mt 54 75)]
abbrev EI:AC:=
 (.seq (.reg Ej) (.seq (.cond (.t 55) .skip (.exit 6)) (.seq (.block 7 EC) (.reg Ec))))
abbrev EB:AC:=
 (.loop EI)
abbrev Eb:List AO:=
 [(mt 76 11),o1 77 (.len (.t 76)),o1 78 (.mv (ci 0))]
abbrev Ea:List AO:=
 [o1 79 (.bin .lss (.t 78) (.t 77))]
abbrev D9:List AO:=
 [o1 80 (.ia 1 (.t 76) (.t 78)),o1 81 (.ld 1 false (.t 80)),
  (mt 17 81)]
abbrev D8:List AO:=
 [o1 82 (.ld 1 false (.t 5)),
  (mt 83 8),o1 84 (.ia 1 (.t 82) (.t 83)),o1 85 (.ld 1 false (.t 84)),
  (mt 86 17),⟨none,none,.mo (.mu (.t 85) (.t 86) (.c (.b true)))⟩]
abbrev EA:AC:=
 (.seq (.reg D9) (.reg D8))
abbrev D7:List AO:=
 [o1 87 (.bin .add (.t 78) (ci 1)),
  (mt 78 87)]
abbrev EH:AC:=
 (.seq (.reg Ea) (.seq (.cond (.t 79) .skip (.exit 10)) (.seq (.block 11 EA) (.reg D7))))
abbrev Ez:AC:=
 (.loop EH)
abbrev D6:List AO:=
 [o1 88 (.ld 1 false (.t 7)),
  (mt 89 88),
  (o4 90 89 (.ld 1 false (.t 5))),
  (o4 91 89 (.mv (.t 8))),
  (o4 92 89 (.ia 1 (.t 90) (.t 91))),
  (o4 93 89 (.ld 1 false (.t 92))),⟨some 94,some (89,false),.mo (.ln (.t 93))⟩,
  (o4 95 89 (.mv (.t 10))),
  (o4 96 89 (.bin .gtr (.t 94) (.t 95))),o1 97 (.pick (.t 89) (.c (.b true)) (.t 96)),
  (o3 (.st 1 (.t 7) (.t 97)))]
abbrev Ey:AC:=
 (.seq (.reg Em) (.seq (.reg El) (.seq (.seq (.reg Ek) (.block 6 EB)) (.seq (.seq (.reg Eb) (.block 10 Ez)) (.reg D6)))))
abbrev wI:AC:=
 (.block 5 Ey)
abbrev Ex:AC:=
 (.rf (.t 36) 37 38 (.seq (.reg Eo) (.reg En)) wI)
abbrev Ew:AC:=
 (.seq (.reg Er) (.seq (.reg Ep) (.block 4 Ex)))
abbrev D5:List AO:=
 [o1 98 (.ld 1 false (.t 7))]
abbrev D4:List AO:=
 [o1 7 (.al 4 [.b false]),
  (o3 (.st 1 (.t 7) (.t 98)))]
abbrev EG:AC:=
 (.seq (.seq (.reg Es) (.cond (.t 34) .skip (.exit 2))) (.seq (.block 3 Ew) (.seq (.reg D5) (.reg D4))))
abbrev Ev:AC:=
 (.loop EG)
abbrev Eu:List (Nat×AO):=
 [(1,(o1 99 (.ld 1 false (.t 5)))),
  (2,(mt 2 99)),(1,(o1 100 (.ld 1 false (.t 4)))),
  (2,(mt 3 100))]
abbrev Q8:AF:=⟨101,(.seq (.reg Mr) (.seq (.reg Mq) (.seq (.reg Mp) (.seq (.seq (.reg Mo) (.block 0 EF)) (.seq (.seq (.reg Et) (.block 2 Ev)) (.seq (.mix Eu) .ret)))))),[.mv (.t 2),.mv (.t 3)]⟩
theorem Ms:bF Try.prog (aB Try.prog 36) 36=some Q8:=by kernel_rfl
/-! slices.Backward[[]api.RegInstr,api.RegInstr]-/
abbrev Mh:List AO:=
 [o1 1 (.bx 23 0 (.t 0)),o1 2 (.mv (.c .f0))]
abbrev Mg:List AO:=
 [o1 3 (.mf 87 [] [.t 1]),
  (mt 2 3)]
abbrev Q7:AF:=⟨4,(.seq (.reg Mh) (.seq (.reg Mg) .ret)),[.mv (.t 2)]⟩
theorem Mi:bF Try.prog (aB Try.prog 67) 67=some Q7:=by kernel_rfl
/-! maps.Keys[allocate.set,int,bool]-/
abbrev Me:List AO:=
 [o1 1 (.bx 70 0 (.t 0)),o1 2 (.mv (.c .f0))]
abbrev Md:List AO:=
 [o1 3 (.mf 71 [] [.t 1]),
  (mt 2 3)]
abbrev Q6:AF:=⟨4,(.seq (.reg Me) (.seq (.reg Md) .ret)),[.mv (.t 2)]⟩
theorem Mf:bF Try.prog (aB Try.prog 38) 38=some Q6:=by kernel_rfl
/-! allocate.Pressure-/
abbrev L9:List AO:=
 [o1 1 (.bx 25 0 (.t 0)),o1 2 (.mv (ci 0)),o1 3 (.mv (ci 0))]
abbrev L8:List AO:=
 [o1 10 (.ld 4 true (.t 1)),
  (o2 11 11 [.t 10]),
  (mt 9 11),o1 12 (.ext 0 (.t 9)),o1 13 (.ext 1 (.t 9)),
  (mt 4 12),
  (mt 5 13)]
abbrev L7:List AO:=
 [o1 6 (.mv (ci 0))]
abbrev L6:List AO:=
 [(mt 14 4),o1 15 (.len (.t 14)),o1 16 (.mv (ci 0))]
abbrev L5:List AO:=
 [o1 17 (.bin .lss (.t 16) (.t 15))]
abbrev L4:List AO:=
 [o1 18 (.ia 1 (.t 14) (.t 16)),o1 19 (.ld 1 false (.t 18)),
  (mt 8 19)]
abbrev L3:List AO:=
 [(mt 20 6),
  (mt 21 8),o1 22 (.len (.t 21)),⟨some 23,none,.mo (.mx (.t 20) (.t 22))⟩,
  (mt 6 23)]
abbrev Mb:AC:=
 (.seq (.reg L4) (.reg L3))
abbrev L2:List AO:=
 [o1 24 (.bin .add (.t 16) (ci 1)),
  (mt 16 24)]
abbrev Mc:AC:=
 (.seq (.reg L5) (.seq (.cond (.t 17) .skip (.exit 0)) (.seq (.block 1 Mb) (.reg L2))))
abbrev D3:AC:=
 (.loop Mc)
abbrev D2:List AO:=
 [(mt 25 6),
  (mt 26 5),
  (mt 2 25),
  (mt 3 26)]
abbrev Q5:AF:=⟨27,(.seq (.reg L9) (.seq (.reg L8) (.seq (.reg L7) (.seq (.seq (.reg L6) (.block 0 D3)) (.seq (.reg D2) .ret))))),[.mv (.t 2),.mv (.t 3)]⟩
theorem Ma:bF Try.prog (aB Try.prog 13) 13=some Q5:=by kernel_rfl
/-! allocate.colors-/
abbrev L0:List AO:=
 [o1 2 (.mv (.c (.cv (.map none)))),o1 3 (.mv (ci 0))]
abbrev LZ:List AO:=
 [(mt 14 0),
  (o2 15 74 [.t 14]),
  (mt 4 15)]
abbrev LY:List AO:=
 [⟨some 16,none,.mo (.mm)⟩,
  (mt 5 16)]
abbrev LX:List AO:=
 [o1 6 (.mv (ci 0))]
abbrev LW:List AO:=
 [(mt 17 0),
  (o2 18 52 [.t 17]),o1 19 (.len (.t 18)),o1 20 (.mv (ci 0))]
abbrev LV:List AO:=
 [o1 21 (.bin .lss (.t 20) (.t 19))]
abbrev LU:List AO:=
 [o1 22 (.ia 1 (.t 18) (.t 20)),o1 23 (.ld 1 false (.t 22)),
  (mt 8 23)]
abbrev LS:List AO:=
 [⟨some 24,none,.mo (.mm)⟩,
  (mt 9 24)]
abbrev LR:List AO:=
 [(mt 25 4),
  (mt 26 8),⟨some 27,none,.mo (.lk (.cv (.map none)) false (.t 25) (.t 26))⟩,⟨some 28,none,.mo (.rg (.t 27))⟩]
abbrev LQ:List AO:=
 [⟨some 29,none,.mo (.nx (.t 28))⟩,o1 30 (.ext 0 (.t 29))]
abbrev DS:List AO:=
 [⟨some 31,none,.mo (.en (.t 28))⟩,o1 32 (.ext 0 (.t 31)),
  (mt 10 32)]
abbrev DQ:List AO:=
 [(mt 34 5),
  (mt 35 10),⟨some 36,none,.mo (.lk (.n .i64 0) true (.t 34) (.t 35))⟩,
  (mt 33 36),o1 37 (.ext 0 (.t 33)),o1 38 (.ext 1 (.t 33)),
  (mt 11 37),
  (mt 12 38)]
abbrev DP:List AO:=
 [(mt 39 12)]
abbrev DN:List AO:=
 [(mt 40 9),
  (mt 41 11),⟨none,none,.mo (.mu (.t 40) (.t 41) (.c (.b true)))⟩]
abbrev DX:AC:=
 (.seq (.reg DS) (.seq (.reg DQ) (.seq (.reg DP) (.cond (.t 39) (.reg DN) .skip))))
abbrev D1:AC:=
 (.seq (.reg LQ) (.seq (.cond (.t 30) .skip (.exit 2)) (.block 3 DX)))
abbrev DW:AC:=
 (.loop D1)
abbrev DM:List AO:=
 [o1 13 (.mv (ci 0))]
abbrev DL:List AO:=
 [(mt 42 9),
  (mt 43 13),⟨some 44,none,.mo (.lk (.b false) false (.t 42) (.t 43))⟩]
abbrev DK:List AO:=
 [(mt 45 13),o1 46 (.bin .add (.t 45) (ci 1)),
  (mt 13 46)]
abbrev DV:AC:=
 (.reg DK)
abbrev DZ:AC:=
 (.seq (.seq (.reg DL) (.cond (.t 44) .skip (.exit 4))) (.block 5 DV))
abbrev wH:AC:=
 (.loop DZ)
abbrev wG:List AO:=
 [(mt 47 5),
  (mt 48 8),
  (mt 49 13),⟨none,none,.mo (.mu (.t 47) (.t 48) (.t 49))⟩]
abbrev wF:List AO:=
 [(mt 50 6),
  (mt 51 13),o1 52 (.bin .add (.t 51) (ci 1)),⟨some 53,none,.mo (.mx (.t 50) (.t 52))⟩,
  (mt 6 53)]
abbrev DU:AC:=
 (.seq (.reg LU) (.seq (.reg LS) (.seq (.seq (.reg LR) (.block 2 DW)) (.seq (.reg DM) (.seq (.block 4 wH) (.seq (.reg wG) (.reg wF)))))))
abbrev DJ:List AO:=
 [o1 54 (.bin .add (.t 20) (ci 1)),
  (mt 20 54)]
abbrev DY:AC:=
 (.seq (.reg LV) (.seq (.cond (.t 21) .skip (.exit 0)) (.seq (.block 1 DU) (.reg DJ))))
abbrev DT:AC:=
 (.loop DY)
abbrev DI:List AO:=
 [(mt 55 5),
  (mt 56 6),
  (mt 2 55),
  (mt 3 56)]
abbrev Q4:AF:=⟨57,(.seq (.reg L0) (.seq (.reg LZ) (.seq (.reg LY) (.seq (.reg LX) (.seq (.seq (.reg LW) (.block 0 DT)) (.seq (.reg DI) .ret)))))),[.mv (.t 2),.mv (.t 3)]⟩
theorem L1:bF Try.prog (aB Try.prog 42) 42=some Q4:=by kernel_rfl
/-! compactorref25.Few-/
abbrev LO:List AO:=
 [o1 1 (.bx 25 0 (.t 0)),o1 2 (.mv (.c (.b false)))]
abbrev LN:List AO:=
 [o1 3 (.ld 4 true (.t 1)),
  (o2 4 33 [.t 3]),
  (mt 5 4),
  (o5 6 5 (.fa 1 (.t 1))),
  (o5 7 5 (.ld 1 false (.t 6))),
  (o5 8 5 (.bin .leq (.t 7) (ci 60))),
  (o5 9 5 (.mv (.t 8))),
  (o4 10 9 (.fa 1 (.t 1))),
  (o4 11 9 (.ld 1 false (.t 10))),
  (o4 12 9 (.bin .gtr (.t 11) (ci 1024))),
  (o5 13 5 (.pick (.t 9) (.c (.b true)) (.t 12))),o1 14 (.pick (.t 5) (.t 13) (.c (.b false))),
  (mt 2 14)]
abbrev Q3:AF:=⟨15,(.seq (.reg LO) (.seq (.reg LN) .ret)),[.mv (.t 2)]⟩
theorem LP:bF Try.prog (aB Try.prog 9) 9=some Q3:=by kernel_rfl
/-! compactorref25.Live-/
abbrev LK:List AO:=
 [o1 1 (.bx 25 0 (.t 0)),o1 2 (.mv (.c .sl0)),o1 3 (.mv (ci 0))]
abbrev LJ:List AO:=
 [o1 10 (.ld 4 true (.t 1)),
  (o2 11 39 [.t 10]),
  (mt 9 11),o1 12 (.ext 0 (.t 9)),o1 13 (.ext 1 (.t 9)),
  (mt 4 12),
  (mt 5 13)]
abbrev LI:List AO:=
 [(mt 14 5),o1 15 (.bin .neq (.t 14) (ci 0))]
abbrev LH:List AO:=
 [(mt 16 5),o1 2 (.mv (.c .sl0)),
  (mt 3 16)]
abbrev LG:List AO:=
 [o1 17 (.ld 4 true (.t 1)),
  (o2 18 40 [.t 17]),
  (mt 6 18)]
abbrev LF:List AO:=
 [o1 7 (.mv (.c .sl0))]
abbrev LD:List AO:=
 [o1 8 (.mv (ci 0))]
abbrev LC:List AO:=
 [(mt 19 8),
  (mt 20 6),o1 21 (.len (.t 20)),o1 22 (.bin .lss (.t 19) (.t 21))]
abbrev LB:List AO:=
 [(mt 25 7),
  (mt 26 6),
  (mt 27 8),o1 28 (.ia 1 (.t 26) (.t 27)),o1 29 (.ld 1 false (.t 28)),
  (o2 30 41 [.t 29]),o1 31 (.bs 39 1 1 [.sl0] [(0,1,(.t 30))]),o1 32 (.app 39 1 24 (.t 25) (.t 31)),
  (mt 7 32)]
abbrev LM:AC:=
 (.reg LB)
abbrev DF:List AO:=
 [(mt 23 8),o1 24 (.bin .add (.t 23) (ci 1)),
  (mt 8 24)]
abbrev DH:AC:=
 (.seq (.seq (.reg LC) (.cond (.t 22) .skip (.exit 0))) (.seq (.block 1 LM) (.reg DF)))
abbrev DG:AC:=
 (.loop DH)
abbrev DE:List AO:=
 [(mt 33 7),
  (mt 2 33),o1 3 (.mv (ci 0))]
abbrev Q2:AF:=⟨34,(.seq (.reg LK) (.seq (.seq (.reg LJ) (.seq (.reg LI) (.cond (.t 15) (.seq (.reg LH) .ret) .skip))) (.seq (.reg LG) (.seq (.reg LF) (.seq (.seq (.reg LD) (.block 0 DG)) (.seq (.reg DE) .ret)))))),[.mv (.t 2),.mv (.t 3)]⟩
theorem LL:bF Try.prog (aB Try.prog 12) 12=some Q2:=by kernel_rfl
/-! compactorref25.Pressure-/
/-! compactorref25.Allocate-/
/-! compactorref25.Compact-/
/-! compactorref25.live-/
abbrev Lx:List AO:=
 [o1 1 (.bx 25 0 (.t 0)),o1 2 (.mv (.c .sl0))]
abbrev Lw:List AO:=
 [o1 18 (.fa 3 (.t 1)),o1 19 (.ld 1 false (.t 18)),
  (o2 20 23 [.t 19]),
  (mt 17 20),o1 21 (.ext 0 (.t 17)),o1 22 (.ext 1 (.t 17)),o1 23 (.ext 2 (.t 17)),
  (mt 3 21),
  (mt 4 22),
  (mt 5 23)]
abbrev Lu:List AO:=
 [o1 24 (.fa 3 (.t 1)),o1 25 (.ld 1 false (.t 24)),o1 26 (.len (.t 25)),
  (mt 6 26)]
abbrev Ls:List AO:=
 [o1 7 (.mv (.c .sl0))]
abbrev Lr:List AO:=
 [o1 8 (.mv (ci 0))]
abbrev Lq:List AO:=
 [(mt 27 8),
  (mt 28 6),o1 29 (.bin .leq (.t 27) (.t 28))]
abbrev Lp:List AO:=
 [(mt 32 7),o1 33 (.fa 1 (.t 1)),o1 34 (.ld 1 false (.t 33)),o1 35 (.ms 4 1 1 [.b false] (.t 34) (.t 34)),o1 36 (.bs 55 1 1 [.sl0] [(0,1,(.t 35))]),o1 37 (.app 55 1 24 (.t 32) (.t 36)),
  (mt 7 37)]
abbrev Lz:AC:=
 (.reg Lp)
abbrev Lo:List AO:=
 [(mt 30 8),o1 31 (.bin .add (.t 30) (ci 1)),
  (mt 8 31)]
abbrev LA:AC:=
 (.seq (.seq (.reg Lq) (.cond (.t 29) .skip (.exit 0))) (.seq (.block 1 Lz) (.reg Lo)))
abbrev Dz:AC:=
 (.loop LA)
abbrev Dr:List AO:=
 [o1 9 (.mv (.c (.b true)))]
abbrev Dq:List AO:=
 [(mt 38 9)]
abbrev Dp:List AO:=
 [o1 9 (.mv (.c (.b false)))]
abbrev Dn:List AO:=
 [(mt 39 6),o1 40 (.bin .sub (.t 39) (ci 1)),
  (mt 10 40)]
abbrev Dm:List AO:=
 [(mt 41 10),o1 42 (.bin .geq (.t 41) (ci 0))]
abbrev Dl:List AO:=
 [o1 46 (.fa 3 (.t 1)),o1 47 (.ld 1 false (.t 46)),
  (mt 48 10),o1 49 (.ia 5 (.t 47) (.t 48)),o1 50 (.ld 5 true (.t 49)),
  (o2 51 57 [.t 50]),
  (mt 45 51),o1 52 (.ext 0 (.t 45)),o1 53 (.ext 1 (.t 45)),
  (mt 11 52),
  (mt 12 53)]
abbrev Dk:List AO:=
 [o1 54 (.fa 3 (.t 1)),o1 55 (.ld 1 false (.t 54)),
  (mt 56 3),
  (mt 57 10),
  (o2 58 59 [.t 55,.t 56,.t 57]),
  (mt 13 58)]
abbrev Dj:List AO:=
 [o1 14 (.mv (ci 0))]
abbrev Di:List AO:=
 [(mt 59 14),o1 60 (.fa 1 (.t 1)),o1 61 (.ld 1 false (.t 60)),o1 62 (.bin .lss (.t 59) (.t 61))]
abbrev Dh:List AO:=
 [(mt 65 11),
  (mt 66 14),
  (o2 67 73 [.t 65,.t 66]),
  (mt 15 67)]
abbrev Dg:List AO:=
 [o1 16 (.mv (ci 0))]
abbrev Df:List AO:=
 [(mt 68 16),
  (mt 69 13),o1 70 (.len (.t 69)),o1 71 (.bin .lss (.t 68) (.t 70))]
abbrev De:List AO:=
 [(mt 74 15),
  (mt 75 74),
  (o4 76 75 (.mv (.t 7))),
  (o4 77 75 (.mv (.t 13))),
  (o4 78 75 (.mv (.t 16))),
  (o4 79 75 (.ia 1 (.t 77) (.t 78))),
  (o4 80 75 (.ld 1 false (.t 79))),
  (o4 81 75 (.ia 1 (.t 76) (.t 80))),
  (o4 82 75 (.ld 1 false (.t 81))),
  (o4 83 75 (.mv (.t 14))),
  (o4 84 75 (.ia 1 (.t 82) (.t 83))),
  (o4 85 75 (.ld 1 false (.t 84))),
  (o4 86 75 (.mv (.t 85))),
  (o5 87 86 (.mv (.t 14))),
  (o5 88 86 (.mv (.t 12))),
  (o5 89 86 (.bin .neq (.t 87) (.t 88))),
  (o4 90 75 (.pick (.t 86) (.t 89) (.c (.b false)))),o1 91 (.pick (.t 75) (.c (.b true)) (.t 90)),
  (mt 15 91)]
abbrev Dy:AC:=
 (.reg De)
abbrev Dd:List AO:=
 [(mt 72 16),o1 73 (.bin .add (.t 72) (ci 1)),
  (mt 16 73)]
abbrev DD:AC:=
 (.seq (.seq (.reg Df) (.cond (.t 71) .skip (.exit 8))) (.seq (.block 9 Dy) (.reg Dd)))
abbrev Dx:AC:=
 (.loop DD)
abbrev Dc:List AO:=
 [(mt 92 15),
  (mt 93 92),
  (o5 94 93 (.mv (.t 7))),
  (o5 95 93 (.mv (.t 10))),
  (o5 96 93 (.ia 1 (.t 94) (.t 95))),
  (o5 97 93 (.ld 1 false (.t 96))),
  (o5 98 93 (.mv (.t 14))),
  (o5 99 93 (.ia 1 (.t 97) (.t 98))),
  (o5 100 93 (.ld 1 false (.t 99))),
  (o5 101 93 (.un .not (.t 100))),o1 102 (.pick (.t 93) (.t 101) (.c (.b false)))]
abbrev Db:List AO:=
 [(mt 103 7),
  (mt 104 10),o1 105 (.ia 1 (.t 103) (.t 104)),o1 106 (.ld 1 false (.t 105)),
  (mt 107 14),o1 108 (.ia 1 (.t 106) (.t 107)),
  (o3 (.st 1 (.t 108) (.c (.b true))))]
abbrev Da:List AO:=
 [o1 9 (.mv (.c (.b true)))]
abbrev wE:AC:=
 (.seq (.reg Dh) (.seq (.seq (.reg Dg) (.block 8 Dx)) (.seq (.reg Dc) (.cond (.t 102) (.seq (.reg Db) (.reg Da)) .skip))))
abbrev C9:List AO:=
 [(mt 63 14),o1 64 (.bin .add (.t 63) (ci 1)),
  (mt 14 64)]
abbrev DC:AC:=
 (.seq (.seq (.reg Di) (.cond (.t 62) .skip (.exit 6))) (.seq (.block 7 wE) (.reg C9)))
abbrev Dw:AC:=
 (.loop DC)
abbrev Dv:AC:=
 (.seq (.reg Dl) (.seq (.reg Dk) (.seq (.reg Dj) (.block 6 Dw))))
abbrev C8:List AO:=
 [(mt 43 10),o1 44 (.bin .sub (.t 43) (ci 1)),
  (mt 10 44)]
abbrev DB:AC:=
 (.seq (.seq (.reg Dm) (.cond (.t 42) .skip (.exit 4))) (.seq (.block 5 Dv) (.reg C8)))
abbrev Du:AC:=
 (.loop DB)
abbrev Dt:AC:=
 (.seq (.reg Dp) (.seq (.reg Dn) (.block 4 Du)))
abbrev DA:AC:=
 (.seq (.seq (.reg Dq) (.cond (.t 38) .skip (.exit 2))) (.block 3 Dt))
abbrev Ds:AC:=
 (.loop DA)
abbrev C7:List AO:=
 [(mt 109 7),
  (mt 2 109)]
abbrev Q0:AF:=⟨110,(.seq (.reg Lx) (.seq (.reg Lw) (.seq (.reg Lu) (.seq (.reg Ls) (.seq (.seq (.reg Lr) (.block 0 Dz)) (.seq (.reg Dr) (.seq (.block 2 Ds) (.seq (.reg C7) .ret)))))))),[.mv (.t 2)]⟩
theorem Ly:bF Try.prog (aB Try.prog 40) 40=some Q0:=by kernel_rfl
/-! compactorref25.members-/
abbrev Lj:List AO:=
 [o1 2 (.mv (.c .sl0))]
abbrev Li:List AO:=
 [o1 3 (.mv (.c .sl0))]
abbrev Lh:List AO:=
 [o1 4 (.mv (ci 0))]
abbrev Lg:List AO:=
 [(mt 5 4),
  (mt 6 0),o1 7 (.len (.t 6)),o1 8 (.bin .lss (.t 5) (.t 7))]
abbrev Lf:List AO:=
 [(mt 11 0),
  (mt 12 4),o1 13 (.ia 1 (.t 11) (.t 12)),o1 14 (.ld 1 false (.t 13))]
abbrev Ld:List AO:=
 [(mt 15 3),
  (mt 16 4),o1 17 (.bs 3 1 1 [.n .i64 0] [(0,1,(.t 16))]),o1 18 (.app 3 1 8 (.t 15) (.t 17)),
  (mt 3 18)]
abbrev Lm:AC:=
 (.seq (.reg Lf) (.cond (.t 14) (.reg Ld) .skip))
abbrev Lc:List AO:=
 [(mt 9 4),o1 10 (.bin .add (.t 9) (ci 1)),
  (mt 4 10)]
abbrev Ln:AC:=
 (.seq (.seq (.reg Lg) (.cond (.t 8) .skip (.exit 0))) (.seq (.block 1 Lm) (.reg Lc)))
abbrev Ll:AC:=
 (.loop Ln)
abbrev C6:List AO:=
 [(mt 19 3),
  (mt 2 19)]
abbrev QO:AF:=⟨20,(.seq (.reg Lj) (.seq (.reg Li) (.seq (.seq (.reg Lh) (.block 0 Ll)) (.seq (.reg C6) .ret)))),[.mv (.t 2)]⟩
theorem Lk:bF Try.prog (aB Try.prog 41) 41=some QO:=by kernel_rfl
/-! compactorref25.Colors-/
/-! compactorref25.replace-/
/-! compactorref25.renamed-/
/-! compactorref25.occurring-/
/-! compactorref25.Successors-/
abbrev La:List AO:=
 [o1 6 (.mv (.c .sl0))]
abbrev K9:List AO:=
 [(mt 8 1),
  (mt 9 2),o1 10 (.ia 1 (.t 8) (.t 9)),o1 11 (.ld 1 false (.t 10)),
  (mt 7 11)]
abbrev K8:List AO:=
 [(mt 12 0),
  (mt 13 2),o1 14 (.ia 5 (.t 12) (.t 13)),o1 15 (.fa 0 (.t 14)),o1 16 (.ld 1 false (.t 15))]
abbrev K7:List AO:=
 [o1 18 (.bin .eql (.t 16) (ci 27)),
  (mt 17 18)]
abbrev K6:List AO:=
 [o1 19 (.bin .eql (.t 16) (ci 29)),
  (mt 17 19)]
abbrev K5:List AO:=
 [o1 20 (.bin .eql (.t 16) (ci 30)),
  (mt 17 20)]
abbrev K4:List AO:=
 [(mt 21 2),o1 22 (.bin .add (.t 21) (ci 1)),
  (mt 23 7),o1 24 (.bin .add (.t 23) (ci 1)),o1 25 (.bs 3 1 2 [.n .i64 0,.n .i64 0] [(0,1,(.t 22)),(1,1,(.t 24))]),
  (mt 6 25)]
abbrev K3:List AO:=
 [o1 27 (.bin .eql (.t 16) (ci 28)),
  (mt 26 27)]
abbrev K2:List AO:=
 [(mt 28 7),o1 29 (.bin .add (.t 28) (ci 1)),o1 30 (.bs 3 1 1 [.n .i64 0] [(0,1,(.t 29))]),
  (mt 6 30)]
abbrev K1:List AO:=
 [o1 32 (.bin .eql (.t 16) (ci 31)),
  (mt 31 32)]
abbrev C4:List AO:=
 [(mt 33 0),
  (mt 34 7),o1 35 (.ia 5 (.t 33) (.t 34)),o1 36 (.fa 0 (.t 35)),o1 37 (.ld 1 false (.t 36)),o1 38 (.bin .eql (.t 37) (ci 29))]
abbrev C3:List AO:=
 [(mt 39 7),o1 40 (.bin .add (.t 39) (ci 1)),
  (mt 41 2),o1 42 (.bin .add (.t 41) (ci 1)),o1 43 (.bs 3 1 2 [.n .i64 0,.n .i64 0] [(0,1,(.t 40)),(1,1,(.t 42))]),
  (mt 6 43)]
abbrev C5:AC:=
 (.seq (.seq (.reg K7) (.cond (.t 17) .skip (.seq (.reg K6) (.cond (.t 17) .skip (.reg K5))))) (.cond (.t 17) (.seq (.reg K4) .ret) (.seq (.reg K3) (.cond (.t 26) (.seq (.reg K2) .ret) (.seq (.reg K1) (.cond (.t 31) (.seq (.reg C4) (.cond (.t 38) (.seq (.reg C3) .ret) .skip)) .skip))))))
abbrev C2:List AO:=
 [(mt 44 2),o1 45 (.bin .add (.t 44) (ci 1)),o1 46 (.bs 3 1 1 [.n .i64 0] [(0,1,(.t 45))]),
  (mt 6 46)]
abbrev QN:AF:=⟨47,(.seq (.reg La) (.seq (.reg K9) (.seq (.seq (.reg K8) (.block 0 C5)) (.seq (.reg C2) .ret)))),[.mv (.t 6)]⟩
theorem Lb:bF Try.prog (aB Try.prog 59) 59=some QN:=by kernel_rfl
/-! compactorref25.has-/
abbrev KV:List AO:=
 [o1 4 (.mv (.c (.b false)))]
abbrev KU:List AO:=
 [o1 5 (.mv (ci 0))]
abbrev KS:List AO:=
 [(mt 6 5),
  (mt 7 0),o1 8 (.len (.t 7)),o1 9 (.bin .lss (.t 6) (.t 8))]
abbrev KR:List AO:=
 [(mt 12 0),
  (mt 13 5),o1 14 (.ia 1 (.t 12) (.t 13)),o1 15 (.ld 1 false (.t 14)),
  (mt 16 1),o1 17 (.bin .eql (.t 15) (.t 16))]
abbrev KQ:List AO:=
 [o1 4 (.mv (.c (.b true)))]
abbrev KY:AC:=
 (.seq (.reg KR) (.cond (.t 17) (.seq (.reg KQ) .ret) .skip))
abbrev KP:List AO:=
 [(mt 10 5),o1 11 (.bin .add (.t 10) (ci 1)),
  (mt 5 11)]
abbrev KZ:AC:=
 (.seq (.seq (.reg KS) (.cond (.t 9) .skip (.exit 0))) (.seq (.block 1 KY) (.reg KP)))
abbrev KX:AC:=
 (.loop KZ)
abbrev KO:List AO:=
 [o1 4 (.mv (.c (.b false)))]
abbrev QM:AF:=⟨18,(.seq (.reg KV) (.seq (.seq (.reg KU) (.block 0 KX)) (.seq (.reg KO) .ret))),[.mv (.t 4)]⟩
theorem KW:bF Try.prog (aB Try.prog 73) 73=some QM:=by kernel_rfl
/-! compactorref25.interfering-/
/-! compactorref25.rename-/
/-! compactorlaw25.push-/
abbrev KM:List AO:=
 [o1 2 (.al 60 [.n .i64 0,.n .i64 0,.n .i64 0,.n .i64 0,.n .u32 0])]
abbrev KL:List AO:=
 [(mt 3 0),
  (mt 4 0),o1 5 (.bin .add (.t 4) (ci 5)),o1 6 (.cvi .u32 (.t 5)),o1 7 (.bd [.n .i64 0,.n .i64 0,.n .i64 0,.n .i64 0,.n .u32 0] [(0,1,(ci 0)),(1,1,(.t 3)),(2,1,(.c (.n .i64 (-1)))),(3,1,(.c (.n .i64 (-1)))),(4,1,(.t 6))]),
  (o3 (.st 5 (.t 2) (.t 7)))]
abbrev QL:AF:=⟨8,(.seq (.reg KM) (.seq (.reg KL) .ret)),[.ld 5 true (.t 2)]⟩
theorem KN:bF Try.prog (aB Try.prog 34) 34=some QL:=by kernel_rfl
/-! compactorlaw25.emit-/
abbrev KJ:List AO:=
 [o1 2 (.al 60 [.n .i64 0,.n .i64 0,.n .i64 0,.n .i64 0,.n .u32 0])]
abbrev KI:List AO:=
 [(mt 3 0),o1 4 (.bd [.n .i64 0,.n .i64 0,.n .i64 0,.n .i64 0,.n .u32 0] [(0,1,(ci 34)),(1,1,(.c (.n .i64 (-1)))),(2,1,(.t 3)),(3,1,(.c (.n .i64 (-1))))]),
  (o3 (.st 5 (.t 2) (.t 4)))]
abbrev QK:AF:=⟨5,(.seq (.reg KJ) (.seq (.reg KI) .ret)),[.ld 5 true (.t 2)]⟩
theorem KK:bF Try.prog (aB Try.prog 35) 35=some QK:=by kernel_rfl
/-! compactorlaw25.awake-/
abbrev KG:List AO:=
 [o1 0 (.mv (.c (.b false)))]
abbrev KF:List AO:=
 [(o2 13 34 [(ci 0)]),
  (o2 14 34 [(ci 1)]),o1 15 (.bd [.n .i64 0,.n .i64 0,.n .i64 0,.n .i64 0,.n .u32 0] [(0,1,(ci 8)),(1,1,(ci 2)),(2,1,(ci 0)),(3,1,(ci 1))]),
  (o2 16 35 [(ci 2)]),o1 17 (.bs 60 5 4 [.n .i64 0,.n .i64 0,.n .i64 0,.n .i64 0,.n .u32 0,.n .i64 0,.n .i64 0,.n .i64 0,.n .i64 0,.n .u32 0,.n .i64 0,.n .i64 0,.n .i64 0,.n .i64 0,.n .u32 0,.n .i64 0,.n .i64 0,.n .i64 0,.n .i64 0,.n .u32 0] [(0,5,(.t 13)),(5,5,(.t 14)),(10,5,(.t 15)),(15,5,(.t 16))]),o1 18 (.bd [.sl0,.n .i64 0,.n .i64 0,.sl0] [(1,1,(ci 3)),(3,1,(.t 17))]),o1 1 (.al 25 [.sl0,.n .i64 0,.n .i64 0,.sl0]),
  (o3 (.st 4 (.t 1) (.t 18)))]
abbrev KE:List AO:=
 [o1 20 (.ld 4 true (.t 1)),
  (o2 21 11 [.t 20]),
  (mt 19 21),o1 22 (.ext 0 (.t 19)),o1 23 (.ext 1 (.t 19)),
  (mt 2 22),
  (mt 3 23)]
abbrev KD:List AO:=
 [o1 25 (.ld 4 true (.t 1)),
  (o2 26 13 [.t 25]),
  (mt 24 26),o1 27 (.ext 0 (.t 24)),o1 28 (.ext 1 (.t 24)),
  (mt 4 27),
  (mt 5 28)]
abbrev KC:List AO:=
 [o1 30 (.ld 4 true (.t 1)),
  (o2 31 17 [.t 30,(ci 4)]),
  (mt 29 31),o1 32 (.ext 0 (.t 29)),o1 33 (.ext 1 (.t 29)),o1 6 (.al 25 [.sl0,.n .i64 0,.n .i64 0,.sl0]),
  (o3 (.st 4 (.t 6) (.t 32))),
  (mt 7 33)]
abbrev KB:List AO:=
 [(mt 34 3),
  (mt 35 5),o1 36 (.bin .add (.t 34) (.t 35)),
  (mt 37 7),o1 38 (.bin .add (.t 36) (.t 37)),o1 39 (.bin .neq (.t 38) (ci 0)),
  (mt 40 39),
  (o4 41 40 (.mv (.t 2))),
  (o4 42 40 (.bs 3 1 1 [.n .i64 0] [(0,1,(ci 0))])),
  (o4 43 40 (.bs 3 1 2 [.n .i64 0,.n .i64 0] [(0,1,(ci 0)),(1,1,(ci 1))])),
  (o4 44 40 (.bs 3 1 1 [.n .i64 0] [(0,1,(ci 2))])),
  (o4 45 40 (.bs 39 1 5 [.sl0,.sl0,.sl0,.sl0,.sl0] [(0,1,(.c .sl0)),(1,1,(.t 42)),(2,1,(.t 43)),(3,1,(.t 44)),(4,1,(.c .sl0))])),⟨some 46,some (40,false),.cl (.c (.f 15 [] [])) [.t 41,.t 45,(.c (.f 16 [] []))]⟩,
  (o4 47 40 (.un .not (.t 46))),o1 48 (.pick (.t 40) (.c (.b true)) (.t 47)),
  (mt 49 48),
  (o4 50 49 (.mv (.t 4))),
  (o4 51 49 (.bin .neq (.t 50) (ci 2))),o1 52 (.pick (.t 49) (.c (.b true)) (.t 51)),
  (mt 53 52),
  (o4 54 53 (.fa 1 (.t 6))),
  (o4 55 53 (.ld 1 false (.t 54))),
  (o4 56 53 (.bin .neq (.t 55) (ci 2))),o1 57 (.pick (.t 53) (.c (.b true)) (.t 56)),
  (mt 58 57),
  (o4 59 58 (.fa 3 (.t 6))),
  (o4 60 58 (.ld 1 false (.t 59))),
  (o4 61 58 (.len (.t 60))),
  (o4 62 58 (.bin .neq (.t 61) (ci 4))),o1 63 (.pick (.t 58) (.c (.b true)) (.t 62)),
  (mt 64 63),
  (o4 65 64 (.fa 3 (.t 6))),
  (o4 66 64 (.ld 1 false (.t 65))),
  (o4 67 64 (.ia 5 (.t 66) (ci 2))),
  (o4 68 64 (.fa 1 (.t 67))),
  (o4 69 64 (.ld 1 false (.t 68))),
  (o4 70 64 (.bin .neq (.t 69) (ci 0))),o1 71 (.pick (.t 64) (.c (.b true)) (.t 70))]
abbrev KA:List AO:=
 [o1 0 (.mv (.c (.b false)))]
abbrev Ch:List AO:=
 [o1 72 (.bd [.sl0,.n .i64 0,.n .i64 0,.sl0] [(1,1,(ci 5))]),o1 8 (.al 25 [.sl0,.n .i64 0,.n .i64 0,.sl0]),
  (o3 (.st 4 (.t 8) (.t 72)))]
abbrev Cg:List AO:=
 [o1 73 (.mv (ci 0))]
abbrev Kz:List AO:=
 [o1 74 (.bin .lss (.t 73) (ci 5))]
abbrev CV:List AO:=
 [(mt 75 73),
  (mt 9 75)]
abbrev CX:List (Nat×AO):=
 [(2,(o1 76 (.fa 3 (.t 8)))),
  (2,(mt 78 9)),(1,(o1 77 (.ld 1 false (.t 76)))),
  (0,(o2 79 34 [.t 78])),(0,(o1 80 (.bs 60 5 1 [.n .i64 0,.n .i64 0,.n .i64 0,.n .i64 0,.n .u32 0] [(0,5,(.t 79))]))),(3,(o1 81 (.app 60 5 40 (.t 77) (.t 80)))),(2,(o1 82 (.fa 3 (.t 8)))),
  (3,(o3 (.st 1 (.t 82) (.t 81))))]
abbrev CZ:AC:=
 (.seq (.reg CV) (.mix CX))
abbrev CU:List AO:=
 [o1 83 (.bin .add (.t 73) (ci 1)),
  (mt 73 83)]
abbrev C1:AC:=
 (.seq (.reg Kz) (.seq (.cond (.t 74) .skip (.exit 0)) (.seq (.block 1 CZ) (.reg CU))))
abbrev wD:AC:=
 (.loop C1)
abbrev wA:List AO:=
 [o1 84 (.mv (ci 0))]
abbrev CT:List AO:=
 [o1 85 (.bin .lss (.t 84) (ci 5))]
abbrev CS:List AO:=
 [(mt 86 84),
  (mt 10 86)]
abbrev CW:List (Nat×AO):=
 [(2,(o1 87 (.fa 3 (.t 8)))),
  (2,(mt 89 10)),(1,(o1 88 (.ld 1 false (.t 87)))),
  (0,(o2 90 35 [.t 89])),(0,(o1 91 (.bs 60 5 1 [.n .i64 0,.n .i64 0,.n .i64 0,.n .i64 0,.n .u32 0] [(0,5,(.t 90))]))),(3,(o1 92 (.app 60 5 40 (.t 88) (.t 91)))),(2,(o1 93 (.fa 3 (.t 8)))),
  (3,(o3 (.st 1 (.t 93) (.t 92))))]
abbrev CY:AC:=
 (.seq (.reg CS) (.mix CW))
abbrev CR:List AO:=
 [o1 94 (.bin .add (.t 84) (ci 1)),
  (mt 84 94)]
abbrev C0:AC:=
 (.seq (.reg CT) (.seq (.cond (.t 85) .skip (.exit 2)) (.seq (.block 3 CY) (.reg CR))))
abbrev wC:AC:=
 (.loop C0)
abbrev wy:List AO:=
 [o1 96 (.ld 4 true (.t 8)),
  (o2 97 17 [.t 96,(ci 4)]),
  (mt 95 97),o1 98 (.ext 0 (.t 95)),o1 99 (.ext 1 (.t 95)),o1 11 (.al 25 [.sl0,.n .i64 0,.n .i64 0,.sl0]),
  (o3 (.st 4 (.t 11) (.t 98))),
  (mt 12 99)]
abbrev wB:List (Nat×AO):=
 [(2,(mt 100 12)),(2,(o1 101 (.bin .eql (.t 100) (ci 0)))),
  (2,(mt 102 101)),
  (2,(o5 103 102 (.fa 1 (.t 11)))),
  (1,(o5 104 102 (.ld 1 false (.t 103)))),
  (2,(o5 105 102 (.bin .eql (.t 104) (ci 4)))),(2,(o1 106 (.pick (.t 102) (.t 105) (.c (.b false))))),
  (2,(mt 107 106)),
  (2,(o5 108 107 (.fa 2 (.t 11)))),
  (1,(o5 109 107 (.ld 1 false (.t 108)))),
  (2,(o5 110 107 (.bin .eql (.t 109) (ci 4)))),(2,(o1 111 (.pick (.t 107) (.t 110) (.c (.b false))))),
  (2,(mt 112 111)),
  (2,(o5 113 112 (.fa 3 (.t 11)))),
  (1,(o5 114 112 (.ld 1 false (.t 113)))),
  (2,(o5 115 112 (.len (.t 114)))),
  (2,(o5 116 112 (.bin .eql (.t 115) (ci 18)))),(2,(o1 117 (.pick (.t 112) (.t 116) (.c (.b false))))),
  (2,(mt 118 117)),
  (2,(o5 119 118 (.fa 3 (.t 11)))),
  (1,(o5 120 118 (.ld 1 false (.t 119)))),
  (2,(o5 121 118 (.ia 5 (.t 120) (ci 0)))),
  (1,(o5 122 118 (.ld 5 true (.t 121)))),(0,⟨some 123,some (118,true),.cl (.c (.f 34 [] [])) [(ci 0)]⟩),
  (2,(o5 124 118 (.eq false (.st [(0,1,.n),(1,1,.n),(2,1,.n),(3,1,.n),(4,1,.n)]) (.t 122) (.t 123)))),(2,(o1 125 (.pick (.t 118) (.t 124) (.c (.b false))))),
  (2,(mt 0 125))]
abbrev QJ:AF:=⟨126,(.seq (.reg KG) (.seq (.reg KF) (.seq (.reg KE) (.seq (.reg KD) (.seq (.reg KC) (.seq (.seq (.reg KB) (.cond (.t 71) (.seq (.reg KA) .ret) .skip)) (.seq (.reg Ch) (.seq (.seq (.reg Cg) (.block 0 wD)) (.seq (.seq (.reg wA) (.block 2 wC)) (.seq (.reg wy) (.seq (.mix wB) .ret))))))))))),[.mv (.t 0)]⟩
theorem KH:bF Try.prog (aB Try.prog 10) 10=some QJ:=by kernel_rfl
/-! compactorlaw25.good-/
/-! compactorlaw25.reached-/
abbrev Kx:List AO:=
 [o1 5 (.bx 25 0 (.t 0)),o1 6 (.bx 39 0 (.t 1)),o1 8 (.bx 3 0 (.t 3)),o1 9 (.bx 55 0 (.t 4)),o1 10 (.mv (.c (.b false)))]
abbrev Kw:List AO:=
 [(mt 13 2),o1 14 (.fa 3 (.t 5)),o1 15 (.ld 1 false (.t 14)),o1 16 (.len (.t 15)),o1 17 (.bin .geq (.t 13) (.t 16)),
  (mt 18 17),
  (o4 19 18 (.ld 1 false (.t 9))),
  (o4 20 18 (.mv (.t 2))),
  (o4 21 18 (.ia 1 (.t 19) (.t 20))),
  (o4 22 18 (.ld 1 false (.t 21))),o1 23 (.pick (.t 18) (.c (.b true)) (.t 22))]
abbrev Kv:List AO:=
 [o1 10 (.mv (.c (.b false)))]
abbrev Ku:List AO:=
 [o1 24 (.ld 1 false (.t 9)),
  (mt 25 2),o1 26 (.ia 1 (.t 24) (.t 25)),
  (o3 (.st 1 (.t 26) (.c (.b true))))]
abbrev Kt:List AO:=
 [o1 28 (.fa 3 (.t 5)),o1 29 (.ld 1 false (.t 28)),
  (mt 30 2),o1 31 (.ia 5 (.t 29) (.t 30)),o1 32 (.ld 5 true (.t 31)),
  (o2 33 57 [.t 32]),
  (mt 27 33),o1 34 (.ext 0 (.t 27)),o1 35 (.ext 1 (.t 27)),
  (mt 11 34),
  (mt 12 35)]
abbrev Ks:List AO:=
 [(mt 36 11),o1 37 (.ld 1 false (.t 8)),
  (o2 38 25 [.t 36,.t 37])]
abbrev Kr:List AO:=
 [o1 10 (.mv (.c (.b true)))]
abbrev Kq:List AO:=
 [(mt 39 12),o1 40 (.ld 1 false (.t 8)),o1 41 (.bin .eql (.t 39) (.t 40))]
abbrev Kp:List AO:=
 [o1 10 (.mv (.c (.b false)))]
abbrev Ko:List AO:=
 [o1 42 (.fa 3 (.t 5)),o1 43 (.ld 1 false (.t 42)),o1 44 (.ld 1 false (.t 6)),
  (mt 45 2),
  (o2 46 59 [.t 43,.t 44,.t 45]),o1 47 (.mf 60 [] [.t 5,.t 6,.t 8,.t 9]),
  (o2 48 58 [.t 46,.t 47]),
  (mt 10 48)]
abbrev QI:AF:=⟨49,(.seq (.reg Kx) (.seq (.seq (.reg Kw) (.cond (.t 23) (.seq (.reg Kv) .ret) .skip)) (.seq (.reg Ku) (.seq (.reg Kt) (.seq (.seq (.reg Ks) (.cond (.t 38) (.seq (.reg Kr) .ret) .skip)) (.seq (.seq (.reg Kq) (.cond (.t 41) (.seq (.reg Kp) .ret) .skip)) (.seq (.reg Ko) .ret))))))),[.mv (.t 10)]⟩
theorem Ky:bF Try.prog (aB Try.prog 26) 26=some QI:=by kernel_rfl
/-! compactorlaw25.reached$1-/
abbrev Km:List AO:=
 [o1 6 (.mv (.c (.b false)))]
abbrev Kl:List AO:=
 [o1 7 (.ld 4 true (.t 1)),o1 8 (.ld 1 false (.t 2)),
  (mt 9 0),o1 10 (.ld 1 false (.t 3)),o1 11 (.ld 1 false (.t 4)),
  (o2 12 26 [.t 7,.t 8,.t 9,.t 10,.t 11]),
  (mt 6 12)]
abbrev QH:AF:=⟨13,(.seq (.reg Km) (.seq (.reg Kl) .ret)),[.mv (.t 6)]⟩
theorem Kn:bF Try.prog (aB Try.prog 60) 60=some QH:=by kernel_rfl
/-! compactorlaw25.AllocateFits$1-/
/-! compactorlaw25.AllocateFits$2-/
/-! optimizer.Prune-/
/-! optimizer.prune-/
/-! optimizer.live-/
/-! optimizer.hollow-/
/-! slices.Clone[[]bool,bool]-/
/-! optimizer.following-/
/-! slices.Equal[[]bool,bool]-/
/-! compactorref24.Prune-/
/-! compactorref24.live-/
/-! compactorref24.idle-/
/-! compactorref24.empty-/
/-! compactorref24.successors-/
/-! compactorlaw24.OptimizerPrunes-/
/-! optimizer.Share-/
/-! optimizer.share-/
/-! optimizer.walk[optimizer.value]-/
/-! optimizer.share$1-/
/-! optimizer.share$2-/
/-! optimizer.expression-/
/-! slices.IndexFunc[[]optimizer.value,optimizer.value]-/
/-! optimizer.share$2$1-/
/-! optimizer.value.computes-/
/-! optimizer.without[optimizer.value]-/
/-! optimizer.both[optimizer.value]-/
/-! optimizer.without[optimizer.value]$1-/
/-! slices.Contains[[]optimizer.value,optimizer.value]-/
/-! slices.Index[[]optimizer.value,optimizer.value]-/
/-! compactorref24.Share-/
/-! compactorref24.keep-/
/-! compactorref24.changes-/
/-! compactorref24.bothFacts-/
/-! compactorref24.expression-/
/-! compactorref24.find-/
/-! compactorlaw24.OptimizerShares-/
/-! optimizer.Optimize-/
/-! compactorref24.Optimize-/
/-! optimizer.Optimize$1-/
/-! slices.Equal[[]api.RegInstr,api.RegInstr]-/
/-! compactorlaw24.OptimizerOptimizes-/
/-! slices.EqualFunc[[][]int,[][]int,[]int,[]int]-/
abbrev Ki:List AO:=
 [o1 6 (.mv (.c (.b false)))]
abbrev Kh:List AO:=
 [(mt 10 0),o1 11 (.len (.t 10)),
  (mt 12 1),o1 13 (.len (.t 12)),o1 14 (.bin .neq (.t 11) (.t 13))]
abbrev Kg:List AO:=
 [o1 6 (.mv (.c (.b false)))]
abbrev Kf:List AO:=
 [(mt 15 0),o1 16 (.len (.t 15)),o1 17 (.mv (ci 0))]
abbrev Ke:List AO:=
 [o1 18 (.bin .lss (.t 17) (.t 16))]
abbrev Kd:List AO:=
 [(mt 19 17),o1 20 (.ia 1 (.t 15) (.t 17)),o1 21 (.ld 1 false (.t 20)),
  (mt 7 19),
  (mt 8 21)]
abbrev Kc:List AO:=
 [(mt 22 1),
  (mt 23 7),o1 24 (.ia 1 (.t 22) (.t 23)),o1 25 (.ld 1 false (.t 24)),
  (mt 9 25)]
abbrev Ka:List AO:=
 [(mt 26 2),
  (mt 27 8),
  (mt 28 9),⟨some 29,none,.cl (.t 26) [.t 27,.t 28]⟩,o1 30 (.un .not (.t 29))]
abbrev J9:List AO:=
 [o1 6 (.mv (.c (.b false)))]
abbrev Kk:AC:=
 (.seq (.reg Kd) (.seq (.reg Kc) (.seq (.reg Ka) (.cond (.t 30) (.seq (.reg J9) .ret) .skip))))
abbrev CO:List AO:=
 [o1 31 (.bin .add (.t 17) (ci 1)),
  (mt 17 31)]
abbrev CQ:AC:=
 (.seq (.reg Ke) (.seq (.cond (.t 18) .skip (.exit 0)) (.seq (.block 1 Kk) (.reg CO))))
abbrev CP:AC:=
 (.loop CQ)
abbrev CN:List AO:=
 [o1 6 (.mv (.c (.b true)))]
abbrev QG:AF:=⟨32,(.seq (.reg Ki) (.seq (.seq (.reg Kh) (.cond (.t 14) (.seq (.reg Kg) .ret) .skip)) (.seq (.seq (.reg Kf) (.block 0 CP)) (.seq (.reg CN) .ret)))),[.mv (.t 6)]⟩
theorem Kj:bF Try.prog (aB Try.prog 15) 15=some QG:=by kernel_rfl
/-! slices.Equal[[]int,int]-/
abbrev J5:List AO:=
 [o1 4 (.mv (.c (.b false)))]
abbrev J4:List AO:=
 [(mt 6 0),o1 7 (.len (.t 6)),
  (mt 8 1),o1 9 (.len (.t 8)),o1 10 (.bin .neq (.t 7) (.t 9))]
abbrev J3:List AO:=
 [o1 4 (.mv (.c (.b false)))]
abbrev J2:List AO:=
 [(mt 11 0),o1 12 (.len (.t 11)),o1 13 (.mv (ci 0))]
abbrev J1:List AO:=
 [o1 14 (.bin .lss (.t 13) (.t 12))]
abbrev J0:List AO:=
 [(mt 15 13),
  (mt 5 15)]
abbrev J7:List (Nat×AO):=
 [(2,(mt 16 0)),
  (2,(mt 17 5)),(2,(o1 18 (.ia 1 (.t 16) (.t 17)))),
  (2,(mt 20 1)),
  (2,(mt 21 5)),(2,(o1 22 (.ia 1 (.t 20) (.t 21)))),(1,(o1 19 (.ld 1 false (.t 18)))),(1,(o1 23 (.ld 1 false (.t 22)))),(2,(o1 24 (.bin .neq (.t 19) (.t 23))))]
abbrev JZ:List AO:=
 [o1 4 (.mv (.c (.b false)))]
abbrev J8:AC:=
 (.seq (.reg J0) (.seq (.mix J7) (.cond (.t 24) (.seq (.reg JZ) .ret) .skip)))
abbrev JY:List AO:=
 [o1 25 (.bin .add (.t 13) (ci 1)),
  (mt 13 25)]
abbrev CM:AC:=
 (.seq (.reg J1) (.seq (.cond (.t 14) .skip (.exit 0)) (.seq (.block 1 J8) (.reg JY))))
abbrev CL:AC:=
 (.loop CM)
abbrev CK:List AO:=
 [o1 4 (.mv (.c (.b true)))]
abbrev QF:AF:=⟨26,(.seq (.reg J5) (.seq (.seq (.reg J4) (.cond (.t 10) (.seq (.reg J3) .ret) .skip)) (.seq (.seq (.reg J2) (.block 0 CL)) (.seq (.reg CK) .ret)))),[.mv (.t 4)]⟩
theorem J6:bF Try.prog (aB Try.prog 16) 16=some QF:=by kernel_rfl
/-! slices.IsSorted[[]int,int]-/
abbrev JS:List AO:=
 [o1 2 (.mv (.c (.b false)))]
abbrev JR:List AO:=
 [(mt 4 0),o1 5 (.len (.t 4)),o1 6 (.bin .sub (.t 5) (ci 1)),
  (mt 3 6)]
abbrev JQ:List AO:=
 [(mt 7 3),o1 8 (.bin .gtr (.t 7) (ci 0))]
abbrev JU:List (Nat×AO):=
 [(2,(mt 11 0)),
  (2,(mt 12 3)),(2,(o1 13 (.ia 1 (.t 11) (.t 12)))),
  (2,(mt 15 0)),
  (2,(mt 16 3)),(2,(o1 17 (.bin .sub (.t 16) (ci 1)))),(2,(o1 18 (.ia 1 (.t 15) (.t 17)))),(1,(o1 14 (.ld 1 false (.t 13)))),(1,(o1 19 (.ld 1 false (.t 18)))),
  (3,(o2 20 55 [.t 14,.t 19]))]
abbrev JP:List AO:=
 [o1 2 (.mv (.c (.b false)))]
abbrev JW:AC:=
 (.seq (.mix JU) (.cond (.t 20) (.seq (.reg JP) .ret) .skip))
abbrev JO:List AO:=
 [(mt 9 3),o1 10 (.bin .sub (.t 9) (ci 1)),
  (mt 3 10)]
abbrev JX:AC:=
 (.seq (.seq (.reg JQ) (.cond (.t 8) .skip (.exit 0))) (.seq (.block 1 JW) (.reg JO)))
abbrev JV:AC:=
 (.loop JX)
abbrev JN:List AO:=
 [o1 2 (.mv (.c (.b true)))]
abbrev Qz:AF:=⟨21,(.seq (.reg JS) (.seq (.seq (.reg JR) (.block 0 JV)) (.seq (.reg JN) .ret))),[.mv (.t 2)]⟩
theorem JT:bF Try.prog (aB Try.prog 24) 24=some Qz:=by kernel_rfl
/-! slices.Contains[[]int,int]-/
abbrev JL:List AO:=
 [o1 4 (.mv (.c (.b false)))]
abbrev JK:List AO:=
 [(mt 5 0),
  (mt 6 1),
  (o2 7 56 [.t 5,.t 6]),o1 8 (.bin .geq (.t 7) (ci 0)),
  (mt 4 8)]
abbrev Qy:AF:=⟨9,(.seq (.reg JL) (.seq (.reg JK) .ret)),[.mv (.t 4)]⟩
theorem JM:bF Try.prog (aB Try.prog 25) 25=some Qy:=by kernel_rfl
/-! slices.EqualFunc[[]api.RegInstr,[]api.RegInstr,api.RegInstr,api.RegInstr]-/
/-! slices.Index[[]int,int]-/
abbrev JF:List AO:=
 [o1 4 (.mv (ci 0))]
abbrev JE:List AO:=
 [(mt 6 0),o1 7 (.len (.t 6)),o1 8 (.mv (ci 0))]
abbrev JD:List AO:=
 [o1 9 (.bin .lss (.t 8) (.t 7))]
abbrev JC:List AO:=
 [(mt 10 8),
  (mt 5 10)]
abbrev JB:List AO:=
 [(mt 11 1),
  (mt 12 0),
  (mt 13 5),o1 14 (.ia 1 (.t 12) (.t 13)),o1 15 (.ld 1 false (.t 14)),o1 16 (.bin .eql (.t 11) (.t 15))]
abbrev JA:List AO:=
 [(mt 17 5),
  (mt 4 17)]
abbrev JI:AC:=
 (.seq (.reg JC) (.seq (.reg JB) (.cond (.t 16) (.seq (.reg JA) .ret) .skip)))
abbrev Jz:List AO:=
 [o1 18 (.bin .add (.t 8) (ci 1)),
  (mt 8 18)]
abbrev JJ:AC:=
 (.seq (.reg JD) (.seq (.cond (.t 9) .skip (.exit 0)) (.seq (.block 1 JI) (.reg Jz))))
abbrev JH:AC:=
 (.loop JJ)
abbrev CJ:List AO:=
 [o1 4 (.mv (.c (.n .i64 (-1))))]
abbrev Qx:AF:=⟨19,(.seq (.reg JF) (.seq (.seq (.reg JE) (.block 0 JH)) (.seq (.reg CJ) .ret))),[.mv (.t 4)]⟩
theorem JG:bF Try.prog (aB Try.prog 56) 56=some Qx:=by kernel_rfl
/-! slices.ContainsFunc[[]int,int]-/
abbrev Jx:List AO:=
 [o1 4 (.mv (.c (.b false)))]
abbrev Jw:List AO:=
 [(mt 5 0),
  (mt 6 1),
  (o2 7 83 [.t 5,.t 6]),o1 8 (.bin .geq (.t 7) (ci 0)),
  (mt 4 8)]
abbrev Qw:AF:=⟨9,(.seq (.reg Jx) (.seq (.reg Jw) .ret)),[.mv (.t 4)]⟩
theorem Jy:bF Try.prog (aB Try.prog 58) 58=some Qw:=by kernel_rfl
/-! slices.IndexFunc[[]int,int]-/
abbrev Jr:List AO:=
 [o1 4 (.mv (ci 0))]
abbrev Jq:List AO:=
 [(mt 6 0),o1 7 (.len (.t 6)),o1 8 (.mv (ci 0))]
abbrev Jp:List AO:=
 [o1 9 (.bin .lss (.t 8) (.t 7))]
abbrev Jo:List AO:=
 [(mt 10 8),
  (mt 5 10)]
abbrev Jn:List AO:=
 [(mt 11 1),
  (mt 12 0),
  (mt 13 5),o1 14 (.ia 1 (.t 12) (.t 13)),o1 15 (.ld 1 false (.t 14)),⟨some 16,none,.cl (.t 11) [.t 15]⟩]
abbrev Jm:List AO:=
 [(mt 17 5),
  (mt 4 17)]
abbrev Ju:AC:=
 (.seq (.reg Jo) (.seq (.reg Jn) (.cond (.t 16) (.seq (.reg Jm) .ret) .skip)))
abbrev Jl:List AO:=
 [o1 18 (.bin .add (.t 8) (ci 1)),
  (mt 8 18)]
abbrev Jv:AC:=
 (.seq (.reg Jp) (.seq (.cond (.t 9) .skip (.exit 0)) (.seq (.block 1 Ju) (.reg Jl))))
abbrev Jt:AC:=
 (.loop Jv)
abbrev CI:List AO:=
 [o1 4 (.mv (.c (.n .i64 (-1))))]
abbrev Qv:AF:=⟨19,(.seq (.reg Jr) (.seq (.seq (.reg Jq) (.block 0 Jt)) (.seq (.reg CI) .ret))),[.mv (.t 4)]⟩
theorem Js:bF Try.prog (aB Try.prog 83) 83=some Qv:=by kernel_rfl
/-! cmp.Less[int]-/
abbrev Jj:List AO:=
 [o1 4 (.mv (.c (.b false)))]
abbrev Ji:List AO:=
 [(mt 5 0),
  (o2 6 81 [.t 5]),
  (mt 7 6),
  (o5 8 7 (.mv (.t 1))),⟨some 9,some (7,true),.cl (.c (.f 81 [] [])) [.t 8]⟩,
  (o5 10 7 (.un .not (.t 9))),o1 11 (.pick (.t 7) (.t 10) (.c (.b false))),
  (mt 12 11),
  (o4 13 12 (.mv (.t 0))),
  (o4 14 12 (.mv (.t 1))),
  (o4 15 12 (.bin .lss (.t 13) (.t 14))),o1 16 (.pick (.t 12) (.c (.b true)) (.t 15)),
  (mt 4 16)]
abbrev Qu:AF:=⟨17,(.seq (.reg Jj) (.seq (.reg Ji) .ret)),[.mv (.t 4)]⟩
theorem Jk:bF Try.prog (aB Try.prog 55) 55=some Qu:=by kernel_rfl
/-! cmp.isNaN[int]-/
abbrev Jg:List AO:=
 [o1 2 (.mv (.c (.b false)))]
abbrev Jf:List AO:=
 [(mt 3 0),
  (mt 4 0),o1 5 (.bin .neq (.t 3) (.t 4)),
  (mt 2 5)]
abbrev Qt:AF:=⟨6,(.seq (.reg Jg) (.seq (.reg Jf) .ret)),[.mv (.t 2)]⟩
theorem Jh:bF Try.prog (aB Try.prog 81) 81=some Qt:=by kernel_rfl
/-! compactorlaw25.AllocateLives-/
/-! compactorlaw25.AllocateSpills-/
/-! compactorlaw25.AllocateCompacts-/
/-! compactorlaw25.AllocateSettles-/
/-! compactorlaw25.AllocateNeeds-/
abbrev Jd:List AO:=
 [o1 3 (.bx 25 0 (.t 0)),o1 6 (.mv (.c (.b false)))]
abbrev Jc:List AO:=
 [o1 14 (.ld 4 true (.t 3)),
  (o2 15 9 [.t 14]),o1 16 (.un .not (.t 15))]
abbrev Jb:List AO:=
 [(o2 17 10 []),
  (mt 6 17)]
abbrev Ja:List AO:=
 [o1 19 (.ld 4 true (.t 3)),
  (o2 20 11 [.t 19]),
  (mt 18 20),o1 21 (.ext 0 (.t 18)),o1 22 (.ext 1 (.t 18)),
  (mt 7 21),
  (mt 8 22)]
abbrev I9:List AO:=
 [o1 24 (.fa 3 (.t 3)),o1 25 (.ld 1 false (.t 24)),
  (o2 26 23 [.t 25]),
  (mt 23 26),o1 27 (.ext 0 (.t 23)),o1 28 (.ext 1 (.t 23)),o1 29 (.ext 2 (.t 23)),
  (mt 9 27),
  (mt 10 28),
  (mt 11 29)]
abbrev I8:List AO:=
 [(mt 30 8),o1 31 (.bin .neq (.t 30) (ci 0)),
  (mt 32 31),
  (o4 33 32 (.mv (.t 11))),
  (o4 34 32 (.bin .neq (.t 33) (ci 0))),o1 35 (.pick (.t 32) (.c (.b true)) (.t 34)),
  (mt 36 35),
  (o4 37 36 (.fa 1 (.t 3))),
  (o4 38 36 (.ld 1 false (.t 37))),
  (o4 39 36 (.bin .eql (.t 38) (ci 0))),o1 40 (.pick (.t 36) (.c (.b true)) (.t 39))]
abbrev I7:List AO:=
 [(mt 41 7),o1 42 (.len (.t 41)),o1 43 (.bin .eql (.t 42) (ci 0)),
  (mt 44 8),o1 45 (.bin .neq (.t 44) (ci 0)),o1 46 (.eq false .b (.t 43) (.t 45)),
  (mt 47 46),⟨some 48,some (47,true),.cl (.c (.f 10 [] [])) []⟩,o1 49 (.pick (.t 47) (.t 48) (.c (.b false))),
  (mt 6 49)]
abbrev Je:List (Nat×AO):=
 [(2,(mt 50 1)),(2,(o1 51 (.cvi .i64 (.t 50)))),(2,(o1 52 (.fa 3 (.t 3)))),
  (2,(mt 57 2)),(2,(o1 58 (.cvi .i64 (.t 57)))),(2,(o1 59 (.fa 1 (.t 3)))),(1,(o1 53 (.ld 1 false (.t 52)))),(2,(o1 54 (.len (.t 53)))),(2,(o1 55 (.bin .add (.t 54) (ci 1)))),(2,(o1 56 (.bin .rem (.t 51) (.t 55)))),
  (2,(mt 12 56)),(1,(o1 60 (.ld 1 false (.t 59)))),(2,(o1 61 (.bin .rem (.t 58) (.t 60)))),
  (2,(mt 13 61))]
abbrev I6:List AO:=
 [(mt 62 7),o1 63 (.len (.t 62)),o1 64 (.fa 3 (.t 3)),o1 65 (.ld 1 false (.t 64)),o1 66 (.len (.t 65)),o1 67 (.bin .add (.t 66) (ci 1)),o1 68 (.bin .neq (.t 63) (.t 67)),
  (mt 69 68),
  (o4 70 69 (.mv (.t 7))),
  (o4 71 69 (.mv (.t 12))),
  (o4 72 69 (.ia 1 (.t 70) (.t 71))),
  (o4 73 69 (.ld 1 false (.t 72))),⟨some 74,some (69,false),.cl (.c (.f 24 [] [])) [.t 73]⟩,
  (o4 75 69 (.un .not (.t 74))),o1 76 (.pick (.t 69) (.c (.b true)) (.t 75))]
abbrev I5:List AO:=
 [o1 6 (.mv (.c (.b false)))]
abbrev CH:List (Nat×AO):=
 [(2,(mt 77 7)),
  (2,(mt 78 12)),(2,(o1 79 (.ia 1 (.t 77) (.t 78)))),(1,(o1 80 (.ld 1 false (.t 79)))),
  (2,(mt 81 13)),(1,(o1 83 (.ld 4 true (.t 3)))),
  (2,(mt 84 9)),
  (2,(mt 85 12)),
  (2,(mt 86 13)),(2,(o1 87 (.fa 3 (.t 3)))),(1,(o1 88 (.ld 1 false (.t 87)))),(2,(o1 89 (.len (.t 88))))]
abbrev CG:AT:=
 (.alt (o2 82 25 [.t 80,.t 81]) (.alt (o1 90 (.ms 4 1 1 [.b false] (.t 89) (.t 89))) (.alt (o2 91 26 [.t 83,.t 84,.t 85,.t 86,.t 90]) (.alt (o1 92 (.eq false .b (.t 82) (.t 91))) (.alt (mt 93 92) (.alt ⟨some 94,some (93,true),.cl (.c (.f 10 [] [])) []⟩ (.alt (o1 95 (.pick (.t 93) (.t 94) (.c (.b false)))) (.alt (mt 6 95) .fin .none) .none) .none) .none) .none) .none) .none) (.alt (o1 90 (.ms 4 1 1 [.b false] (.t 89) (.t 89))) (.alt (o2 82 25 [.t 80,.t 81]) (.alt (o2 91 26 [.t 83,.t 84,.t 85,.t 86,.t 90]) (.alt (o1 92 (.eq false .b (.t 82) (.t 91))) (.alt (mt 93 92) (.alt ⟨some 94,some (93,true),.cl (.c (.f 10 [] [])) []⟩ (.alt (o1 95 (.pick (.t 93) (.t 94) (.c (.b false)))) (.alt (mt 6 95) .fin .none) .none) .none) .none) .none) .none) .none) .none))
abbrev Qs:AF:=⟨96,(.seq (.reg Jd) (.seq (.seq (.reg Jc) (.cond (.t 16) (.seq (.reg Jb) .ret) .skip)) (.seq (.reg Ja) (.seq (.reg I9) (.seq (.seq (.reg I8) (.cond (.t 40) (.seq (.reg I7) .ret) .skip)) (.seq (.mix Je) (.seq (.seq (.reg I6) (.cond (.t 76) (.seq (.reg I5) .ret) .skip)) (.seq (.frk CH CG) .ret)))))))),[.mv (.t 6)]⟩
theorem wx:bF Try.prog (aB Try.prog 7) 7=some Qs:=by kernel_rfl
/-! compactorlaw25.AllocateFits-/
end Go.Proofs.Yteopfmnnhlhbmaa