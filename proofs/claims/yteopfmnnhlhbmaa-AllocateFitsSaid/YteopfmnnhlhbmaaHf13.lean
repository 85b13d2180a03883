/- A part of the proof of AllocateFits: AcA AcB AcAlA AcAlI AcAlD AcAlE AcAlG AcAlF AcD AcC AcE AcAlH AcAlJ. No condition. -/
import Derived.Test.YteopfmnnhlhbmaaHf12
import Derived.Test.YteopfmnnhlhbmaaProg
set_option linter.unusedSimpArgs false
set_option linter.unusedVariables false
set_option linter.constructorNameAsVariable false
set_option maxRecDepth 100000
set_option maxHeartbeats 4000000
namespace Go.Proofs.Yteopfmnnhlhbmaa
open Go.RowKit
/-! optimizer.numbers-/
/-! lower.Uses-/
abbrev RQ:List AO:=
 [o1 1 (.bx 60 0 (.t 0)),o1 2 (.mv (.c .sl0)),o1 3 (.mv (ci 0))]
abbrev RP:List AO:=
 [o1 6 (.fa 0 (.t 1)),o1 7 (.ld 1 false (.t 6)),
  (o2 8 88 [.t 7]),o1 4 (.al 104 [.b false,.b false,.b false,.b false]),
  (o3 (.st 4 (.t 4) (.t 8)))]
abbrev RO:List AO:=
 [o1 5 (.mv (.c .sl0))]
abbrev RN:List AO:=
 [o1 9 (.fa 2 (.t 4)),o1 10 (.ld 1 false (.t 9))]
abbrev RM:List AO:=
 [(mt 11 5),o1 12 (.fa 2 (.t 1)),o1 13 (.ld 1 false (.t 12)),o1 14 (.bs 3 1 1 [.n .i64 0] [(0,1,(.t 13))]),o1 15 (.app 3 1 8 (.t 11) (.t 14)),
  (mt 5 15)]
abbrev RL:List AO:=
 [o1 16 (.fa 3 (.t 4)),o1 17 (.ld 1 false (.t 16))]
abbrev RK:List AO:=
 [(mt 18 5),o1 19 (.fa 3 (.t 1)),o1 20 (.ld 1 false (.t 19)),o1 21 (.bs 3 1 1 [.n .i64 0] [(0,1,(.t 20))]),o1 22 (.app 3 1 8 (.t 18) (.t 21)),
  (mt 5 22)]
abbrev RJ:List AO:=
 [o1 23 (.fa 1 (.t 4)),o1 24 (.ld 1 false (.t 23)),o1 25 (.un .not (.t 24))]
abbrev RH:List AO:=
 [(mt 26 5),
  (mt 2 26),o1 3 (.mv (.c (.n .i64 (-1))))]
abbrev RS:List (Nat×AO):=
 [(2,(mt 27 5)),(2,(o1 28 (.fa 1 (.t 1)))),
  (2,(mt 2 27)),(1,(o1 29 (.ld 1 false (.t 28)))),
  (2,(mt 3 29))]
abbrev x1F:AF:=⟨30,(.seq (.reg RQ) (.seq (.reg RP) (.seq (.reg RO) (.seq (.seq (.reg RN) (.cond (.t 10) (.reg RM) .skip)) (.seq (.seq (.reg RL) (.cond (.t 17) (.reg RK) .skip)) (.seq (.seq (.reg RJ) (.cond (.t 25) (.seq (.reg RH) .ret) .skip)) (.seq (.mix RS) .ret))))))),[.mv (.t 2),.mv (.t 3)]⟩
theorem RR:bK Try.prog (aE Try.prog 68) 68=some x1F:=by kernel_rfl
/-! lower.shape-/
/-! optimizer.written-/
/-! optimizer.source-/
/-! slices.Index[[]optimizer.known,optimizer.known]-/
/-! slices.Contains[[]optimizer.known,optimizer.known]-/
/-! slices.IndexFunc[[]optimizer.known,optimizer.known]-/
/-! optimizer.numbers$1-/
/-! optimizer.both[optimizer.known]-/
/-! optimizer.without[optimizer.known]-/
/-! optimizer.without[optimizer.known]$1-/
/-! slices.ContainsFunc[[]api.RegInstr,api.RegInstr]-/
/-! slices.IndexFunc[[]api.RegInstr,api.RegInstr]-/
abbrev Rr:List AO:=
 [o1 4 (.mv (ci 0))]
abbrev Rq:List AO:=
 [(mt 6 0),o1 7 (.len (.t 6)),o1 8 (.mv (ci 0))]
abbrev Rp:List AO:=
 [o1 9 (.bin .lss (.t 8) (.t 7))]
abbrev Ro:List AO:=
 [(mt 10 8),
  (mt 5 10)]
abbrev Rn:List AO:=
 [(mt 11 1),
  (mt 12 0),
  (mt 13 5),o1 14 (.ia 5 (.t 12) (.t 13)),o1 15 (.ld 5 true (.t 14)),⟨some 16,none,.cl (.t 11) [.t 15]⟩]
abbrev Rm:List AO:=
 [(mt 17 5),
  (mt 4 17)]
abbrev Ru:AC:=
 (.seq (.reg Ro) (.seq (.reg Rn) (.cond (.t 16) (.seq (.reg Rm) .ret) .skip)))
abbrev Rl:List AO:=
 [o1 18 (.bin .add (.t 8) (ci 1)),
  (mt 8 18)]
abbrev Rv:AC:=
 (.seq (.reg Rp) (.seq (.cond (.t 9) .skip (.exit 0)) (.seq (.block 1 Ru) (.reg Rl))))
abbrev Rt:AC:=
 (.loop Rv)
abbrev LW:List AO:=
 [o1 4 (.mv (.c (.n .i64 (-1))))]
abbrev x2F:AF:=⟨19,(.seq (.reg Rr) (.seq (.seq (.reg Rq) (.block 0 Rt)) (.seq (.reg LW) .ret))),[.mv (.t 4)]⟩
theorem Rs:bK Try.prog (aE Try.prog 65) 65=some x2F:=by kernel_rfl
/-! optimizer.arithmetic-/
/-! optimizer.folded-/
/-! optimizer.fold$1-/
/-! optimizer.fold$2-/
/-! optimizer.pairs-/
/-! optimizer.walk[optimizer.known]-/
/-! optimizer.fold-/
/-! optimizer.checked-/
/-! optimizer.copied-/
/-! optimizer.Fold-/
/-! compactorref24.writes-/
/-! compactorref24.copyKnown-/
/-! compactorref24.forget-/
/-! compactorref24.bothKnown-/
/-! compactorref24.folded-/
/-! compactorref24.Fold-/
/-! compactorref23.Uses-/
abbrev Q8:List AO:=
 [o1 1 (.bx 60 0 (.t 0)),o1 2 (.mv (.c .sl0)),o1 3 (.mv (ci 0))]
abbrev Q7:List AO:=
 [o1 10 (.fa 0 (.t 1)),o1 11 (.ld 1 false (.t 10)),
  (o2 12 82 [.t 11]),
  (mt 9 12),o1 13 (.ext 0 (.t 9)),o1 14 (.ext 1 (.t 9)),o1 15 (.ext 2 (.t 9)),o1 16 (.ext 3 (.t 9)),
  (mt 4 13),
  (mt 5 14),
  (mt 6 15),
  (mt 7 16)]
abbrev Q6:List AO:=
 [o1 8 (.mv (.c .sl0))]
abbrev Q5:List AO:=
 [(mt 17 5)]
abbrev Q4:List AO:=
 [(mt 18 8),o1 19 (.fa 2 (.t 1)),o1 20 (.ld 1 false (.t 19)),o1 21 (.bs 3 1 1 [.n .i64 0] [(0,1,(.t 20))]),o1 22 (.app 3 1 8 (.t 18) (.t 21)),
  (mt 8 22)]
abbrev Q3:List AO:=
 [(mt 23 6)]
abbrev Q2:List AO:=
 [(mt 24 8),o1 25 (.fa 3 (.t 1)),o1 26 (.ld 1 false (.t 25)),o1 27 (.bs 3 1 1 [.n .i64 0] [(0,1,(.t 26))]),o1 28 (.app 3 1 8 (.t 24) (.t 27)),
  (mt 8 28)]
abbrev Q0:List AO:=
 [(mt 29 4)]
abbrev Ra:List (Nat×AO):=
 [(2,(mt 30 8)),(2,(o1 31 (.fa 1 (.t 1)))),
  (2,(mt 2 30)),(1,(o1 32 (.ld 1 false (.t 31)))),
  (2,(mt 3 32))]
abbrev QZ:List AO:=
 [(mt 33 8),
  (mt 2 33),o1 3 (.mv (.c (.n .i64 (-1))))]
abbrev x3F:AF:=⟨34,(.seq (.reg Q8) (.seq (.reg Q7) (.seq (.reg Q6) (.seq (.seq (.reg Q5) (.cond (.t 17) (.reg Q4) .skip)) (.seq (.seq (.reg Q3) (.cond (.t 23) (.reg Q2) .skip)) (.seq (.seq (.reg Q0) (.cond (.t 29) (.seq (.mix Ra) .ret) .skip)) (.seq (.reg QZ) .ret))))))),[.mv (.t 2),.mv (.t 3)]⟩
theorem Q9:bK Try.prog (aE Try.prog 57) 57=some x3F:=by kernel_rfl
/-! compactorref23.Parts-/
/-! slices.Clone[[]api.Array,api.Array]-/
abbrev QS:List AO:=
 [o1 2 (.mv (.c .sl0))]
abbrev QR:List AO:=
 [(mt 3 0),⟨some 4,none,.sn false (.t 3)⟩]
abbrev QQ:List AO:=
 [o1 2 (.mv (.c .sl0))]
abbrev QP:List AO:=
 [o1 5 (.bs 102 2 0 [] []),
  (mt 6 0),o1 7 (.app 102 2 16 (.t 5) (.t 6)),
  (mt 2 7)]
abbrev x4F:AF:=⟨8,(.seq (.reg QS) (.seq (.seq (.reg QR) (.cond (.t 4) (.seq (.reg QQ) .ret) .skip)) (.seq (.reg QP) .ret))),[.mv (.t 2)]⟩
theorem QT:bK Try.prog (aE Try.prog 75) 75=some x4F:=by kernel_rfl
/-! slices.Clone[[]api.RegInstr,api.RegInstr]-/
abbrev QN:List AO:=
 [o1 2 (.mv (.c .sl0))]
abbrev QM:List AO:=
 [(mt 3 0),⟨some 4,none,.sn false (.t 3)⟩]
abbrev QL:List AO:=
 [o1 2 (.mv (.c .sl0))]
abbrev QK:List AO:=
 [o1 5 (.bs 60 5 0 [] []),
  (mt 6 0),o1 7 (.app 60 5 40 (.t 5) (.t 6)),
  (mt 2 7)]
abbrev x5F:AF:=⟨8,(.seq (.reg QN) (.seq (.seq (.reg QM) (.cond (.t 4) (.seq (.reg QL) .ret) .skip)) (.seq (.reg QK) .ret))),[.mv (.t 2)]⟩
theorem QO:bK Try.prog (aE Try.prog 29) 29=some x5F:=by kernel_rfl
/-! compactorref23.Same-/
/-! compactorref15.SameArrays-/
/-! compactorref24.Few-/
/-! compactorref23.Few-/
abbrev QI:List AO:=
 [o1 1 (.bx 25 0 (.t 0)),o1 2 (.mv (.c (.b false)))]
abbrev QH:List AO:=
 [o1 3 (.fa 0 (.t 1)),o1 4 (.ld 1 false (.t 3)),o1 5 (.len (.t 4)),o1 6 (.bin .leq (.t 5) (ci 20)),
  (mt 7 6),
  (o5 8 7 (.fa 3 (.t 1))),
  (o5 9 7 (.ld 1 false (.t 8))),
  (o5 10 7 (.len (.t 9))),
  (o5 11 7 (.bin .leq (.t 10) (ci 300))),o1 12 (.pick (.t 7) (.t 11) (.c (.b false))),
  (mt 2 12)]
abbrev x6F:AF:=⟨13,(.seq (.reg QI) (.seq (.reg QH) .ret)),[.mv (.t 2)]⟩
theorem QJ:bK Try.prog (aE Try.prog 33) 33=some x6F:=by kernel_rfl
/-! compactorlaw24.OptimizerFolds-/
/-! lower.shapes-/
/-! optimizer.Copies-/
/-! optimizer.copies-/
/-! optimizer.walk[optimizer.same]-/
/-! optimizer.copies$1-/
/-! optimizer.copies$2-/
/-! optimizer.without[optimizer.same]-/
/-! optimizer.both[optimizer.same]-/
/-! optimizer.without[optimizer.same]$1-/
/-! slices.Contains[[]optimizer.same,optimizer.same]-/
/-! slices.Index[[]optimizer.same,optimizer.same]-/
/-! compactorref24.Copies-/
/-! compactorref24.source-/
/-! compactorref24.withoutSources-/
/-! compactorref24.bothSources-/
/-! compactorref24.only-/
/-! compactorref23.Copy-/
/-! compactorlaw24.OptimizerCopies-/
/-! allocate.blocks-/
abbrev QF:List AO:=
 [o1 2 (.mv (.c (.cv (.map none))))]
abbrev QE:List AO:=
 [⟨some 14,none,.mo (.mm)⟩,
  (mt 3 14)]
abbrev QD:List AO:=
 [o1 4 (.mv (.c .sl0)),o1 5 (.mv (.c .sl0))]
abbrev QC:List AO:=
 [o1 6 (.mv (.c .sl0))]
abbrev QB:List AO:=
 [(mt 15 0),o1 16 (.len (.t 15)),o1 17 (.mv (ci 0))]
abbrev QA:List AO:=
 [o1 18 (.bin .lss (.t 17) (.t 16))]
abbrev Qz:List AO:=
 [(mt 19 17),o1 20 (.ia 5 (.t 15) (.t 17)),o1 21 (.ld 5 true (.t 20)),o1 8 (.al 60 [.n .i64 0,.n .i64 0,.n .i64 0,.n .i64 0,.n .u32 0]),
  (mt 7 19),
  (o3 (.st 5 (.t 8) (.t 21)))]
abbrev Qy:List AO:=
 [o1 22 (.fa 0 (.t 8)),o1 23 (.ld 1 false (.t 22))]
abbrev Qx:List AO:=
 [o1 25 (.bin .eql (.t 23) (ci 27)),
  (mt 24 25)]
abbrev Qw:List AO:=
 [o1 26 (.bin .eql (.t 23) (ci 29)),
  (mt 24 26)]
abbrev JF:List AO:=
 [(mt 27 4),
  (mt 28 7),o1 29 (.bs 3 1 1 [.n .i64 0] [(0,1,(.t 28))]),o1 30 (.app 3 1 8 (.t 27) (.t 29)),
  (mt 31 5),
  (mt 32 7),o1 33 (.bs 3 1 1 [.n .i64 0] [(0,1,(.t 32))]),o1 34 (.app 3 1 8 (.t 31) (.t 33)),
  (mt 35 6),o1 36 (.bs 39 1 1 [.sl0] [(0,1,(.c .sl0))]),o1 37 (.app 39 1 24 (.t 35) (.t 36)),
  (mt 4 30),
  (mt 5 34),
  (mt 6 37)]
abbrev JE:List AO:=
 [o1 39 (.bin .eql (.t 23) (ci 28)),
  (mt 38 39)]
abbrev JD:List AO:=
 [(mt 40 4),o1 41 (.len (.t 40)),o1 42 (.bin .sub (.t 41) (ci 1)),
  (mt 9 42)]
abbrev JC:List AO:=
 [(mt 43 3),
  (mt 44 4),
  (mt 45 9),o1 46 (.ia 1 (.t 44) (.t 45)),o1 47 (.ld 1 false (.t 46)),
  (mt 48 5),
  (mt 49 9),
  (mt 50 7),
  (mt 51 7),⟨some 52,none,.mo (.me (.n .i64 0) (.t 43) (.t 47))⟩,o1 53 (.ext 1 (.t 52)),⟨none,none,.mo (.es (.t 43) (.t 53) (.t 50))⟩,o1 54 (.ia 1 (.t 48) (.t 49)),
  (o3 (.st 1 (.t 54) (.t 51)))]
abbrev JB:List AO:=
 [o1 56 (.bin .eql (.t 23) (ci 30)),
  (mt 55 56)]
abbrev CQ:List AO:=
 [(mt 57 4),o1 58 (.len (.t 57)),o1 59 (.bin .sub (.t 58) (ci 1)),
  (mt 10 59)]
abbrev JA:List AO:=
 [(mt 60 0),
  (mt 61 4),
  (mt 62 10),o1 63 (.ia 1 (.t 61) (.t 62)),o1 64 (.ld 1 false (.t 63)),o1 65 (.ia 5 (.t 60) (.t 64)),o1 66 (.fa 0 (.t 65)),o1 67 (.ld 1 false (.t 66)),o1 68 (.bin .neq (.t 67) (ci 29))]
abbrev Jz:List AO:=
 [(mt 69 10),o1 70 (.bin .sub (.t 69) (ci 1)),
  (mt 10 70)]
abbrev JK:AC:=
 (.reg Jz)
abbrev JN:AC:=
 (.seq (.seq (.reg JA) (.cond (.t 68) .skip (.exit 3))) (.block 4 JK))
abbrev CU:AC:=
 (.loop JN)
abbrev CP:List AO:=
 [(mt 71 6),
  (mt 72 10),
  (mt 73 6),
  (mt 74 10),o1 75 (.ia 1 (.t 73) (.t 74)),o1 76 (.ld 1 false (.t 75)),
  (mt 77 7),o1 78 (.bs 3 1 1 [.n .i64 0] [(0,1,(.t 77))]),o1 79 (.app 3 1 8 (.t 76) (.t 78)),o1 80 (.ia 1 (.t 71) (.t 72)),
  (o3 (.st 1 (.t 80) (.t 79)))]
abbrev Jy:List AO:=
 [o1 82 (.bin .eql (.t 23) (ci 31)),
  (mt 81 82)]
abbrev CO:List AO:=
 [(mt 83 4),o1 84 (.len (.t 83)),o1 85 (.bin .sub (.t 84) (ci 1)),
  (mt 11 85)]
abbrev CS:List (Nat×AO):=
 [(2,(mt 86 3)),
  (2,(mt 87 5)),
  (2,(mt 88 11)),(2,(o1 89 (.ia 1 (.t 87) (.t 88)))),
  (2,(mt 91 3)),
  (2,(mt 92 7)),
  (2,(mt 93 7)),
  (2,(mt 94 4)),
  (2,(mt 95 11)),(2,(o1 96 (.ia 1 (.t 94) (.t 95)))),(1,(o1 90 (.ld 1 false (.t 89)))),(1,(o1 97 (.ld 1 false (.t 96)))),(3,⟨some 98,none,.mo (.me (.n .i64 0) (.t 86) (.t 90))⟩),(2,(o1 99 (.ext 1 (.t 98)))),(3,⟨none,none,.mo (.es (.t 86) (.t 99) (.t 93))⟩),(3,⟨some 100,none,.mo (.me (.n .i64 0) (.t 91) (.t 92))⟩),(2,(o1 101 (.ext 1 (.t 100)))),(3,⟨none,none,.mo (.es (.t 91) (.t 101) (.t 97))⟩)]
abbrev CN:List AO:=
 [(mt 102 6),
  (mt 103 11),o1 104 (.ia 1 (.t 102) (.t 103)),o1 105 (.ld 1 false (.t 104)),o1 106 (.len (.t 105)),o1 107 (.mv (ci 0))]
abbrev Jx:List AO:=
 [o1 108 (.bin .lss (.t 107) (.t 106))]
abbrev Jw:List AO:=
 [o1 109 (.ia 1 (.t 105) (.t 107)),o1 110 (.ld 1 false (.t 109)),
  (mt 13 110)]
abbrev Jv:List AO:=
 [(mt 111 3),
  (mt 112 13),
  (mt 113 7),⟨none,none,.mo (.mu (.t 111) (.t 112) (.t 113))⟩]
abbrev JJ:AC:=
 (.seq (.reg Jw) (.reg Jv))
abbrev Ju:List AO:=
 [o1 114 (.bin .add (.t 107) (ci 1)),
  (mt 107 114)]
abbrev JM:AC:=
 (.seq (.reg Jx) (.seq (.cond (.t 108) .skip (.exit 5)) (.seq (.block 6 JJ) (.reg Ju))))
abbrev CT:AC:=
 (.loop JM)
abbrev CR:List (Nat×AO):=
 [(2,(mt 115 4)),
  (2,(mt 116 11)),(2,(o1 117 (.sl 1 (.t 115) none (some (.t 116))))),
  (2,(mt 118 5)),
  (2,(mt 119 11)),(2,(o1 120 (.sl 1 (.t 118) none (some (.t 119))))),
  (2,(mt 121 6)),
  (2,(mt 122 11)),(2,(o1 123 (.sl 1 (.t 121) none (some (.t 122))))),
  (2,(mt 4 117)),
  (2,(mt 5 120)),
  (2,(mt 6 123))]
abbrev JI:AC:=
 (.seq (.seq (.reg Qx) (.cond (.t 24) .skip (.reg Qw))) (.cond (.t 24) (.reg JF) (.seq (.reg JE) (.cond (.t 38) (.seq (.reg JD) (.reg JC)) (.seq (.reg JB) (.cond (.t 55) (.seq (.reg CQ) (.seq (.block 3 CU) (.reg CP))) (.seq (.reg Jy) (.cond (.t 81) (.seq (.reg CO) (.seq (.mix CS) (.seq (.seq (.reg CN) (.block 5 CT)) (.mix CR)))) .skip))))))))
abbrev JH:AC:=
 (.seq (.reg Qz) (.seq (.reg Qy) (.block 2 JI)))
abbrev Jt:List AO:=
 [o1 124 (.bin .add (.t 17) (ci 1)),
  (mt 17 124)]
abbrev JL:AC:=
 (.seq (.reg QA) (.seq (.cond (.t 18) .skip (.exit 0)) (.seq (.block 1 JH) (.reg Jt))))
abbrev JG:AC:=
 (.loop JL)
abbrev Js:List AO:=
 [(mt 125 3),
  (mt 2 125)]
abbrev x7F:AF:=⟨126,(.seq (.reg QF) (.seq (.reg QE) (.seq (.reg QD) (.seq (.reg QC) (.seq (.seq (.reg QB) (.block 0 JG)) (.seq (.reg Js) .ret)))))),[.mv (.t 2)]⟩
theorem QG:bK Try.prog (aE Try.prog 86) 86=some x7F:=by kernel_rfl
/-! allocate.graph-/
abbrev Qu:List AO:=
 [o1 2 (.mv (.c .sl0))]
abbrev Qt:List AO:=
 [(mt 9 0),
  (o2 10 86 [.t 9]),
  (mt 3 10)]
abbrev Qs:List AO:=
 [o1 4 (.mv (.c .sl0))]
abbrev Qr:List AO:=
 [(mt 11 0),o1 12 (.len (.t 11)),o1 13 (.mv (ci 0))]
abbrev Qq:List AO:=
 [o1 14 (.bin .lss (.t 13) (.t 12))]
abbrev Qp:List AO:=
 [(mt 15 13),o1 16 (.ia 5 (.t 11) (.t 13)),o1 17 (.ld 5 true (.t 16)),o1 6 (.al 60 [.n .i64 0,.n .i64 0,.n .i64 0,.n .i64 0,.n .u32 0]),
  (mt 5 15),
  (o3 (.st 5 (.t 6) (.t 17)))]
abbrev Qo:List AO:=
 [(mt 18 5),o1 19 (.bin .add (.t 18) (ci 1)),o1 20 (.bs 3 1 1 [.n .i64 0] [(0,1,(.t 19))]),
  (mt 7 20)]
abbrev Qn:List AO:=
 [o1 21 (.fa 0 (.t 6)),o1 22 (.ld 1 false (.t 21))]
abbrev Qm:List AO:=
 [o1 24 (.bin .eql (.t 22) (ci 27)),
  (mt 23 24)]
abbrev Ql:List AO:=
 [o1 25 (.bin .eql (.t 22) (ci 29)),
  (mt 23 25)]
abbrev Jn:List AO:=
 [o1 26 (.bin .eql (.t 22) (ci 30)),
  (mt 23 26)]
abbrev Jm:List AO:=
 [(mt 27 7),
  (mt 28 3),
  (mt 29 5),⟨some 30,none,.mo (.lk (.n .i64 0) false (.t 28) (.t 29))⟩,o1 31 (.bin .add (.t 30) (ci 1)),o1 32 (.bs 3 1 1 [.n .i64 0] [(0,1,(.t 31))]),o1 33 (.app 3 1 8 (.t 27) (.t 32)),
  (mt 7 33)]
abbrev Jl:List AO:=
 [o1 34 (.fa 0 (.t 6)),o1 35 (.ld 1 false (.t 34)),o1 36 (.bin .eql (.t 35) (ci 27)),
  (mt 37 36),
  (o5 38 37 (.mv (.t 0))),
  (o5 39 37 (.mv (.t 3))),
  (o5 40 37 (.mv (.t 5))),⟨some 41,some (37,true),.mo (.lk (.n .i64 0) false (.t 39) (.t 40))⟩,
  (o5 42 37 (.ia 5 (.t 38) (.t 41))),
  (o5 43 37 (.fa 0 (.t 42))),
  (o5 44 37 (.ld 1 false (.t 43))),
  (o5 45 37 (.bin .eql (.t 44) (ci 31))),o1 46 (.pick (.t 37) (.t 45) (.c (.b false)))]
abbrev Jk:List AO:=
 [(mt 47 7),
  (mt 48 3),
  (mt 49 5),⟨some 50,none,.mo (.lk (.n .i64 0) false (.t 48) (.t 49))⟩,o1 51 (.ia 1 (.t 47) (ci 1)),
  (o3 (.st 1 (.t 51) (.t 50)))]
abbrev Jj:List AO:=
 [o1 53 (.bin .eql (.t 22) (ci 28)),
  (mt 52 53)]
abbrev Ji:List AO:=
 [(mt 54 7),
  (mt 55 3),
  (mt 56 5),⟨some 57,none,.mo (.lk (.n .i64 0) false (.t 55) (.t 56))⟩,o1 58 (.bin .add (.t 57) (ci 1)),o1 59 (.ia 1 (.t 54) (ci 0)),
  (o3 (.st 1 (.t 59) (.t 58)))]
abbrev Jh:List AO:=
 [o1 61 (.bin .eql (.t 22) (ci 31)),
  (mt 60 61)]
abbrev Jg:List AO:=
 [(mt 62 3),
  (mt 63 5),⟨some 64,none,.mo (.lk (.n .i64 0) false (.t 62) (.t 63))⟩,
  (mt 8 64)]
abbrev Jf:List AO:=
 [(mt 65 0),
  (mt 66 8),o1 67 (.ia 5 (.t 65) (.t 66)),o1 68 (.fa 0 (.t 67)),o1 69 (.ld 1 false (.t 68)),o1 70 (.bin .eql (.t 69) (ci 29))]
abbrev Je:List AO:=
 [(mt 71 7),
  (mt 72 8),o1 73 (.bin .add (.t 72) (ci 1)),o1 74 (.bs 3 1 1 [.n .i64 0] [(0,1,(.t 73))]),o1 75 (.app 3 1 8 (.t 71) (.t 74)),
  (mt 7 75)]
abbrev Jq:AC:=
 (.seq (.seq (.reg Qm) (.cond (.t 23) .skip (.seq (.reg Ql) (.cond (.t 23) .skip (.reg Jn))))) (.cond (.t 23) (.seq (.reg Jm) (.seq (.reg Jl) (.cond (.t 46) (.reg Jk) .skip))) (.seq (.reg Jj) (.cond (.t 52) (.reg Ji) (.seq (.reg Jh) (.cond (.t 60) (.seq (.reg Jg) (.seq (.reg Jf) (.cond (.t 70) (.reg Je) .skip))) .skip))))))
abbrev Jd:List AO:=
 [(mt 76 4),
  (mt 77 7),o1 78 (.bs 39 1 1 [.sl0] [(0,1,(.t 77))]),o1 79 (.app 39 1 24 (.t 76) (.t 78)),
  (mt 4 79)]
abbrev Jp:AC:=
 (.seq (.reg Qp) (.seq (.reg Qo) (.seq (.seq (.reg Qn) (.block 2 Jq)) (.reg Jd))))
abbrev Jc:List AO:=
 [o1 80 (.bin .add (.t 13) (ci 1)),
  (mt 13 80)]
abbrev Jr:AC:=
 (.seq (.reg Qq) (.seq (.cond (.t 14) .skip (.exit 0)) (.seq (.block 1 Jp) (.reg Jc))))
abbrev Jo:AC:=
 (.loop Jr)
abbrev Jb:List AO:=
 [(mt 81 4),
  (mt 2 81)]
abbrev x8F:AF:=⟨82,(.seq (.reg Qu) (.seq (.reg Qt) (.seq (.reg Qs) (.seq (.seq (.reg Qr) (.block 0 Jo)) (.seq (.reg Jb) .ret))))),[.mv (.t 2)]⟩
theorem Qv:bK Try.prog (aE Try.prog 66) 66=some x8F:=by kernel_rfl
/-! allocate.occurring-/
abbrev Qj:List AO:=
 [o1 2 (.mv (.c .sl0))]
abbrev Qi:List AO:=
 [⟨some 10,none,.mo (.mm)⟩,
  (mt 3 10)]
abbrev Qh:List AO:=
 [(mt 11 0),o1 12 (.len (.t 11)),o1 13 (.mv (ci 0))]
abbrev Qg:List AO:=
 [o1 14 (.bin .lss (.t 13) (.t 12))]
abbrev Qf:List AO:=
 [o1 15 (.ia 5 (.t 11) (.t 13)),o1 16 (.ld 5 true (.t 15)),o1 5 (.al 60 [.n .i64 0,.n .i64 0,.n .i64 0,.n .i64 0,.n .u32 0]),
  (o3 (.st 5 (.t 5) (.t 16)))]
abbrev Qe:List AO:=
 [o1 18 (.ld 5 true (.t 5)),
  (o2 19 68 [.t 18]),
  (mt 17 19),o1 20 (.ext 0 (.t 17)),o1 21 (.ext 1 (.t 17)),
  (mt 6 20),
  (mt 7 21)]
abbrev Qd:List AO:=
 [(mt 22 6),
  (mt 23 7),o1 24 (.bs 3 1 1 [.n .i64 0] [(0,1,(.t 23))]),o1 25 (.app 3 1 8 (.t 22) (.t 24)),o1 26 (.len (.t 25)),o1 27 (.mv (ci 0))]
abbrev Qc:List AO:=
 [o1 28 (.bin .lss (.t 27) (.t 26))]
abbrev Qb:List AO:=
 [o1 29 (.ia 1 (.t 25) (.t 27)),o1 30 (.ld 1 false (.t 29)),
  (mt 9 30)]
abbrev Qa:List AO:=
 [(mt 31 9),o1 32 (.bin .geq (.t 31) (ci 0))]
abbrev I4:List AO:=
 [(mt 33 3),
  (mt 34 9),⟨none,none,.mo (.mu (.t 33) (.t 34) (.c (.b true)))⟩]
abbrev I8:AC:=
 (.seq (.reg Qb) (.seq (.reg Qa) (.cond (.t 32) (.reg I4) .skip)))
abbrev I3:List AO:=
 [o1 35 (.bin .add (.t 27) (ci 1)),
  (mt 27 35)]
abbrev Ja:AC:=
 (.seq (.reg Qc) (.seq (.cond (.t 28) .skip (.exit 2)) (.seq (.block 3 I8) (.reg I3))))
abbrev I7:AC:=
 (.loop Ja)
abbrev I6:AC:=
 (.seq (.reg Qf) (.seq (.reg Qe) (.seq (.reg Qd) (.block 2 I7))))
abbrev I2:List AO:=
 [o1 36 (.bin .add (.t 13) (ci 1)),
  (mt 13 36)]
abbrev I9:AC:=
 (.seq (.reg Qg) (.seq (.cond (.t 14) .skip (.exit 0)) (.seq (.block 1 I6) (.reg I2))))
abbrev I5:AC:=
 (.loop I9)
abbrev I1:List AO:=
 [(mt 37 3),
  (o2 38 38 [.t 37]),
  (o2 39 37 [.t 38]),
  (mt 2 39)]
abbrev x9F:AF:=⟨40,(.seq (.reg Qj) (.seq (.reg Qi) (.seq (.seq (.reg Qh) (.block 0 I5)) (.seq (.reg I1) .ret)))),[.mv (.t 2)]⟩
theorem Qk:bK Try.prog (aE Try.prog 52) 52=some x9F:=by kernel_rfl
/-! allocate.replaced-/
abbrev OW:List AO:=
 [o1 2 (.bx 60 0 (.t 0)),o1 4 (.al 60 [.n .i64 0,.n .i64 0,.n .i64 0,.n .i64 0,.n .u32 0])]
abbrev OV:List AO:=
 [o1 9 (.fa 1 (.t 2)),o1 10 (.fa 2 (.t 2)),o1 11 (.fa 3 (.t 2)),o1 12 (.bs 120 1 3 [.p0,.p0,.p0] [(0,1,(.t 9)),(1,1,(.t 10)),(2,1,(.t 11))]),o1 13 (.len (.t 12)),o1 14 (.mv (ci 0))]
abbrev OU:List AO:=
 [o1 15 (.bin .lss (.t 14) (.t 13))]
abbrev OT:List AO:=
 [o1 16 (.ia 1 (.t 12) (.t 14)),o1 17 (.ld 1 false (.t 16)),
  (mt 6 17)]
abbrev OS:List AO:=
 [(mt 19 1),
  (mt 20 6),o1 21 (.nc (.t 20)),o1 22 (.ld 1 false (.t 21)),⟨some 23,none,.mo (.lk (.n .i64 0) true (.t 19) (.t 22))⟩,
  (mt 18 23),o1 24 (.ext 0 (.t 18)),o1 25 (.ext 1 (.t 18)),
  (mt 7 24),
  (mt 8 25)]
abbrev OQ:List AO:=
 [(mt 26 8)]
abbrev OP:List AO:=
 [(mt 27 6),
  (mt 28 7),o1 29 (.nc (.t 27)),
  (o3 (.st 1 (.t 29) (.t 28)))]
abbrev OY:AC:=
 (.seq (.reg OT) (.seq (.reg OS) (.seq (.reg OQ) (.cond (.t 26) (.reg OP) .skip))))
abbrev OO:List AO:=
 [o1 30 (.bin .add (.t 14) (ci 1)),
  (mt 14 30)]
abbrev OZ:AC:=
 (.seq (.reg OU) (.seq (.cond (.t 15) .skip (.exit 0)) (.seq (.block 1 OY) (.reg OO))))
abbrev GP:AC:=
 (.loop OZ)
abbrev GO:List AO:=
 [o1 31 (.ld 5 true (.t 2)),
  (o3 (.st 5 (.t 4) (.t 31)))]
abbrev R7:AF:=⟨32,(.seq (.reg OW) (.seq (.seq (.reg OV) (.block 0 GP)) (.seq (.reg GO) .ret))),[.ld 5 true (.t 4)]⟩
theorem OX:bK Try.prog (aE Try.prog 46) 46=some R7:=by kernel_rfl
/-! allocate.copied-/
abbrev OK:List AO:=
 [o1 1 (.bx 25 0 (.t 0)),o1 2 (.al 25 [.sl0,.n .i64 0,.n .i64 0,.sl0])]
abbrev OM:List (Nat×AO):=
 [(2,(o1 3 (.fa 0 (.t 1)))),(2,(o1 6 (.fa 3 (.t 1)))),(1,(o1 4 (.ld 1 false (.t 3)))),(1,(o1 7 (.ld 1 false (.t 6)))),
  (0,(o2 5 75 [.t 4])),(2,(o1 9 (.fa 0 (.t 1)))),
  (3,(o2 8 29 [.t 7])),
  (3,(o3 (.st 1 (.t 9) (.t 5)))),(2,(o1 10 (.fa 3 (.t 1)))),
  (3,(o3 (.st 1 (.t 10) (.t 8))))]
abbrev OJ:List AO:=
 [o1 11 (.ld 4 true (.t 1)),
  (o3 (.st 4 (.t 2) (.t 11)))]
abbrev R6:AF:=⟨12,(.seq (.reg OK) (.seq (.mix OM) (.seq (.reg OJ) .ret))),[.ld 4 true (.t 2)]⟩
theorem OL:bK Try.prog (aE Try.prog 44) 44=some R6:=by kernel_rfl
/-! allocate.renamed-/
abbrev OD:List AO:=
 [o1 3 (.bx 25 0 (.t 0)),o1 6 (.al 25 [.sl0,.n .i64 0,.n .i64 0,.sl0])]
abbrev OC:List AO:=
 [o1 10 (.ld 4 true (.t 3)),
  (o2 11 44 [.t 10]),o1 7 (.al 25 [.sl0,.n .i64 0,.n .i64 0,.sl0]),
  (o3 (.st 4 (.t 7) (.t 11)))]
abbrev OA:List AO:=
 [(mt 12 2),o1 13 (.fa 1 (.t 7)),
  (o3 (.st 1 (.t 13) (.t 12)))]
abbrev Oz:List AO:=
 [o1 14 (.fa 3 (.t 7)),o1 15 (.ld 1 false (.t 14)),o1 16 (.len (.t 15)),o1 17 (.mv (ci 0))]
abbrev Oy:List AO:=
 [o1 18 (.bin .lss (.t 17) (.t 16))]
abbrev Ox:List AO:=
 [(mt 19 17),o1 20 (.ia 5 (.t 15) (.t 17)),o1 21 (.ld 5 true (.t 20)),o1 9 (.al 60 [.n .i64 0,.n .i64 0,.n .i64 0,.n .i64 0,.n .u32 0]),
  (mt 8 19),
  (o3 (.st 5 (.t 9) (.t 21)))]
abbrev OG:List (Nat×AO):=
 [(2,(o1 22 (.fa 3 (.t 7)))),
  (2,(mt 24 8)),
  (2,(mt 26 1)),(1,(o1 23 (.ld 1 false (.t 22)))),(1,(o1 25 (.ld 5 true (.t 9)))),
  (0,(o2 27 46 [.t 25,.t 26])),(2,(o1 28 (.ia 5 (.t 23) (.t 24)))),
  (3,(o3 (.st 5 (.t 28) (.t 27))))]
abbrev OH:AC:=
 (.seq (.reg Ox) (.mix OG))
abbrev Ow:List AO:=
 [o1 29 (.bin .add (.t 17) (ci 1)),
  (mt 17 29)]
abbrev OI:AC:=
 (.seq (.reg Oy) (.seq (.cond (.t 18) .skip (.exit 0)) (.seq (.block 1 OH) (.reg Ow))))
abbrev GN:AC:=
 (.loop OI)
abbrev GM:List AO:=
 [o1 30 (.ld 4 true (.t 7)),
  (o3 (.st 4 (.t 6) (.t 30)))]
abbrev R5:AF:=⟨31,(.seq (.reg OD) (.seq (.reg OC) (.seq (.reg OA) (.seq (.seq (.reg Oz) (.block 0 GN)) (.seq (.reg GM) .ret))))),[.ld 4 true (.t 6)]⟩
theorem OE:bK Try.prog (aE Try.prog 43) 43=some R5:=by kernel_rfl
/-! allocate.Compact-/
abbrev Ot:List AO:=
 [o1 1 (.bx 25 0 (.t 0)),o1 2 (.al 25 [.sl0,.n .i64 0,.n .i64 0,.sl0]),o1 3 (.mv (ci 0))]
abbrev Oq:List AO:=
 [o1 10 (.ld 4 true (.t 1)),
  (o2 11 27 [.t 10]),
  (mt 9 11),o1 12 (.ext 0 (.t 9)),o1 13 (.ext 1 (.t 9)),
  (mt 4 12),
  (mt 5 13)]
abbrev Oo:List AO:=
 [(mt 14 5),o1 15 (.bin .neq (.t 14) (ci 0))]
abbrev Om:List AO:=
 [o1 16 (.bd [.sl0,.n .i64 0,.n .i64 0,.sl0] []),
  (mt 17 5),
  (o3 (.st 4 (.t 2) (.t 16))),
  (mt 3 17)]
abbrev Ol:List AO:=
 [⟨some 18,none,.mo (.mm)⟩,
  (mt 6 18)]
abbrev Ok:List AO:=
 [o1 19 (.fa 3 (.t 1)),o1 20 (.ld 1 false (.t 19)),
  (o2 21 52 [.t 20]),o1 22 (.len (.t 21)),o1 23 (.mv (ci 0))]
abbrev Oj:List AO:=
 [o1 24 (.bin .lss (.t 23) (.t 22))]
abbrev Oi:List AO:=
 [(mt 25 23),o1 26 (.ia 1 (.t 21) (.t 23)),o1 27 (.ld 1 false (.t 26)),
  (mt 7 25),
  (mt 8 27)]
abbrev Oh:List AO:=
 [(mt 28 6),
  (mt 29 8),
  (mt 30 7),⟨none,none,.mo (.mu (.t 28) (.t 29) (.t 30))⟩]
abbrev Ov:AC:=
 (.seq (.reg Oi) (.reg Oh))
abbrev GJ:List AO:=
 [o1 31 (.bin .add (.t 23) (ci 1)),
  (mt 23 31)]
abbrev GL:AC:=
 (.seq (.reg Oj) (.seq (.cond (.t 24) .skip (.exit 0)) (.seq (.block 1 Ov) (.reg GJ))))
abbrev GK:AC:=
 (.loop GL)
abbrev GI:List AO:=
 [o1 32 (.ld 4 true (.t 1)),
  (mt 33 6),
  (mt 34 6),⟨some 35,none,.mo (.ln (.t 34))⟩,
  (o2 36 43 [.t 32,.t 33,.t 35]),
  (o3 (.st 4 (.t 2) (.t 36))),o1 3 (.mv (ci 0))]
abbrev R4:AF:=⟨37,(.seq (.reg Ot) (.seq (.seq (.reg Oq) (.seq (.reg Oo) (.cond (.t 15) (.seq (.reg Om) .ret) .skip))) (.seq (.reg Ol) (.seq (.seq (.reg Ok) (.block 0 GK)) (.seq (.reg GI) .ret))))),[.ld 4 true (.t 2),.mv (.t 3)]⟩
theorem Ou:bK Try.prog (aE Try.prog 20) 20=some R4:=by kernel_rfl
/-! allocate.interference-/
abbrev Oe:List AO:=
 [o1 2 (.mv (.c (.cv (.map none))))]
abbrev Od:List AO:=
 [⟨some 16,none,.mo (.mm)⟩,o1 3 (.al 117 [.cv (.map none)]),
  (o3 (.st 1 (.t 3) (.t 16)))]
abbrev Oc:List AO:=
 [o1 17 (.mf 94 [] [.t 3]),
  (mt 4 17)]
abbrev Ob:List AO:=
 [(mt 19 0),
  (o2 20 36 [.t 19]),
  (mt 18 20),o1 21 (.ext 0 (.t 18)),o1 22 (.ext 1 (.t 18)),
  (mt 5 21),
  (mt 6 22)]
abbrev Oa:List AO:=
 [(mt 23 5),o1 24 (.ia 1 (.t 23) (ci 0)),o1 25 (.ld 1 false (.t 24)),⟨some 26,none,.mo (.rg (.t 25))⟩]
abbrev N9:List AO:=
 [⟨some 27,none,.mo (.nx (.t 26))⟩,o1 28 (.ext 0 (.t 27))]
abbrev N8:List AO:=
 [⟨some 29,none,.mo (.en (.t 26))⟩,o1 30 (.ext 0 (.t 29)),
  (mt 7 30)]
abbrev N7:List AO:=
 [(mt 31 5),o1 32 (.ia 1 (.t 31) (ci 0)),o1 33 (.ld 1 false (.t 32)),⟨some 34,none,.mo (.rg (.t 33))⟩]
abbrev N6:List AO:=
 [⟨some 35,none,.mo (.nx (.t 34))⟩,o1 36 (.ext 0 (.t 35))]
abbrev N5:List AO:=
 [⟨some 37,none,.mo (.en (.t 34))⟩,o1 38 (.ext 0 (.t 37)),
  (mt 8 38)]
abbrev Gr:List AO:=
 [(mt 39 7),
  (mt 40 8),o1 41 (.bin .neq (.t 39) (.t 40))]
abbrev Gq:List AO:=
 [(mt 42 4),
  (mt 43 7),
  (mt 44 8),⟨some 45,none,.cl (.t 42) [.t 43,.t 44]⟩]
abbrev GB:AC:=
 (.seq (.reg N5) (.seq (.reg Gr) (.cond (.t 41) (.reg Gq) .skip)))
abbrev GH:AC:=
 (.seq (.reg N6) (.seq (.cond (.t 36) .skip (.exit 2)) (.block 3 GB)))
abbrev Gz:AC:=
 (.loop GH)
abbrev Gy:AC:=
 (.seq (.reg N8) (.seq (.reg N7) (.block 2 Gz)))
abbrev GG:AC:=
 (.seq (.reg N9) (.seq (.cond (.t 28) .skip (.exit 0)) (.block 1 Gy)))
abbrev xa:AC:=
 (.loop GG)
abbrev Gp:List AO:=
 [(mt 46 0),o1 47 (.len (.t 46)),o1 48 (.mv (ci 0))]
abbrev Gn:List AO:=
 [o1 49 (.bin .lss (.t 48) (.t 47))]
abbrev Gm:List AO:=
 [(mt 50 48),o1 51 (.ia 5 (.t 46) (.t 48)),o1 52 (.ld 5 true (.t 51)),o1 10 (.al 60 [.n .i64 0,.n .i64 0,.n .i64 0,.n .i64 0,.n .u32 0]),
  (mt 9 50),
  (o3 (.st 5 (.t 10) (.t 52)))]
abbrev Gl:List AO:=
 [o1 54 (.ld 5 true (.t 10)),
  (o2 55 68 [.t 54]),
  (mt 53 55),o1 56 (.ext 0 (.t 53)),o1 57 (.ext 1 (.t 53)),
  (mt 11 56),
  (mt 12 57)]
abbrev Gk:List AO:=
 [(mt 58 6),
  (mt 59 9),o1 60 (.ia 1 (.t 58) (.t 59)),o1 61 (.ld 1 false (.t 60)),o1 62 (.len (.t 61)),o1 63 (.mv (ci 0))]
abbrev Gj:List AO:=
 [o1 64 (.bin .lss (.t 63) (.t 62))]
abbrev Gi:List AO:=
 [o1 65 (.ia 1 (.t 61) (.t 63)),o1 66 (.ld 1 false (.t 65)),
  (mt 14 66)]
abbrev Gh:List AO:=
 [(mt 67 5),
  (mt 68 14),o1 69 (.ia 1 (.t 67) (.t 68)),o1 70 (.ld 1 false (.t 69)),⟨some 71,none,.mo (.rg (.t 70))⟩]
abbrev Gg:List AO:=
 [⟨some 72,none,.mo (.nx (.t 71))⟩,o1 73 (.ext 0 (.t 72))]
abbrev Gf:List AO:=
 [⟨some 74,none,.mo (.en (.t 71))⟩,o1 75 (.ext 0 (.t 74)),
  (mt 15 75)]
abbrev Gc:List AO:=
 [(mt 76 12),o1 77 (.bin .geq (.t 76) (ci 0)),
  (mt 78 77),
  (o5 79 78 (.mv (.t 15))),
  (o5 80 78 (.mv (.t 12))),
  (o5 81 78 (.bin .neq (.t 79) (.t 80))),o1 82 (.pick (.t 78) (.t 81) (.c (.b false)))]
abbrev Gb:List AO:=
 [(mt 83 4),
  (mt 84 12),
  (mt 85 15),⟨some 86,none,.cl (.t 83) [.t 84,.t 85]⟩]
abbrev Gx:AC:=
 (.seq (.reg Gf) (.seq (.reg Gc) (.cond (.t 82) (.reg Gb) .skip)))
abbrev GF:AC:=
 (.seq (.reg Gg) (.seq (.cond (.t 73) .skip (.exit 8)) (.block 9 Gx)))
abbrev Gw:AC:=
 (.loop GF)
abbrev Gv:AC:=
 (.seq (.reg Gi) (.seq (.reg Gh) (.block 8 Gw)))
abbrev Ga:List AO:=
 [o1 87 (.bin .add (.t 63) (ci 1)),
  (mt 63 87)]
abbrev GD:AC:=
 (.seq (.reg Gj) (.seq (.cond (.t 64) .skip (.exit 6)) (.seq (.block 7 Gv) (.reg Ga))))
abbrev Gu:AC:=
 (.loop GD)
abbrev Gs:AC:=
 (.seq (.reg Gm) (.seq (.reg Gl) (.seq (.reg Gk) (.block 6 Gu))))
abbrev F9:List AO:=
 [o1 88 (.bin .add (.t 48) (ci 1)),
  (mt 48 88)]
abbrev GC:AC:=
 (.seq (.reg Gn) (.seq (.cond (.t 49) .skip (.exit 4)) (.seq (.block 5 Gs) (.reg F9))))
abbrev w8:AC:=
 (.loop GC)
abbrev F8:List AO:=
 [o1 89 (.ld 1 false (.t 3)),
  (mt 2 89)]
abbrev R0:AF:=⟨90,(.seq (.reg Oe) (.seq (.reg Od) (.seq (.reg Oc) (.seq (.reg Ob) (.seq (.seq (.reg Oa) (.block 0 xa)) (.seq (.seq (.reg Gp) (.block 4 w8)) (.seq (.reg F8) .ret))))))),[.mv (.t 2)]⟩
theorem Og:bK Try.prog (aE Try.prog 74) 74=some R0:=by kernel_rfl
/-! allocate.interference$1-/
abbrev NZ:List AO:=
 [(mt 7 0),
  (mt 8 1),o1 9 (.bd [.n .i64 0,.n .i64 0] [(0,1,(.t 7)),(1,1,(.t 8))]),
  (mt 10 1),
  (mt 11 0),o1 12 (.bd [.n .i64 0,.n .i64 0] [(0,1,(.t 10)),(1,1,(.t 11))]),o1 13 (.bs 142 2 2 [.n .i64 0,.n .i64 0,.n .i64 0,.n .i64 0] [(0,2,(.t 9)),(2,2,(.t 12))]),o1 14 (.len (.t 13)),o1 15 (.mv (ci 0))]
abbrev NY:List AO:=
 [o1 16 (.bin .lss (.t 15) (.t 14))]
abbrev NW:List AO:=
 [o1 17 (.ia 2 (.t 13) (.t 15)),o1 18 (.ld 2 true (.t 17)),o1 6 (.al 142 [.n .i64 0,.n .i64 0]),
  (o3 (.st 2 (.t 6) (.t 18)))]
abbrev NV:List AO:=
 [o1 19 (.ld 1 false (.t 2)),o1 20 (.iaa 2 1 (.t 6) (ci 0)),o1 21 (.ld 1 false (.t 20)),⟨some 22,none,.mo (.lk (.cv (.map none)) false (.t 19) (.t 21))⟩,⟨some 23,none,.mo (.mn false (.t 22))⟩]
abbrev NU:List AO:=
 [o1 24 (.ld 1 false (.t 2)),o1 25 (.iaa 2 1 (.t 6) (ci 0)),o1 26 (.ld 1 false (.t 25)),⟨some 27,none,.mo (.mm)⟩,⟨none,none,.mo (.mu (.t 24) (.t 26) (.t 27))⟩]
abbrev NT:List AO:=
 [o1 28 (.ld 1 false (.t 2)),o1 29 (.iaa 2 1 (.t 6) (ci 0)),o1 30 (.ld 1 false (.t 29)),⟨some 31,none,.mo (.lk (.cv (.map none)) false (.t 28) (.t 30))⟩,o1 32 (.iaa 2 1 (.t 6) (ci 1)),o1 33 (.ld 1 false (.t 32)),⟨none,none,.mo (.mu (.t 31) (.t 33) (.c (.b true)))⟩]
abbrev N3:AC:=
 (.seq (.reg NW) (.seq (.seq (.reg NV) (.cond (.t 23) (.reg NU) .skip)) (.reg NT)))
abbrev NS:List AO:=
 [o1 34 (.bin .add (.t 15) (ci 1)),
  (mt 15 34)]
abbrev N4:AC:=
 (.seq (.reg NY) (.seq (.cond (.t 16) .skip (.exit 0)) (.seq (.block 1 N3) (.reg NS))))
abbrev N1:AC:=
 (.loop N4)
abbrev RZ:AF:=⟨35,(.seq (.reg NZ) (.block 0 N1)),[]⟩
theorem N0:bK Try.prog (aE Try.prog 94) 94=some RZ:=by kernel_rfl
/-! allocate.spiller.cell-/
abbrev NN:List AO:=
 [o1 2 (.bx 83 0 (.t 0)),o1 4 (.mv (.c (.n .u32 0))),o1 5 (.mv (.c (.b false)))]
abbrev NQ:List (Nat×AO):=
 [(2,(o1 6 (.fa 1 (.t 2)))),
  (2,(mt 8 1)),(2,(o1 10 (.fa 0 (.t 2)))),
  (2,(mt 14 1)),(2,(o1 15 (.fa 0 (.t 2)))),(1,(o1 7 (.ld 1 false (.t 6)))),(2,(o1 9 (.bin .add (.t 7) (.t 8)))),(1,(o1 11 (.ld 1 false (.t 10)))),(2,(o1 12 (.bin .sub (.t 9) (.t 11)))),(2,(o1 13 (.cvi .u32 (.t 12)))),
  (2,(mt 4 13)),(1,(o1 16 (.ld 1 false (.t 15)))),(2,(o1 17 (.bin .geq (.t 14) (.t 16)))),
  (2,(mt 5 17))]
abbrev RY:AF:=⟨18,(.seq (.reg NN) (.seq (.mix NQ) .ret)),[.mv (.t 4),.mv (.t 5)]⟩
theorem NP:bK Try.prog (aE Try.prog 76) 76=some RY:=by kernel_rfl
/-! allocate.sequence-/
abbrev NL:List AO:=
 [o1 2 (.mv (.c .sl0))]
abbrev NK:List AO:=
 [(mt 3 0),
  (mt 2 3)]
abbrev RX:AF:=⟨4,(.seq (.reg NL) (.seq (.reg NK) .ret)),[.mv (.t 2)]⟩
theorem NM:bK Try.prog (aE Try.prog 77) 77=some RX:=by kernel_rfl
/-! allocate.spiller.rewrite-/
abbrev NG:List AO:=
 [o1 2 (.bx 83 0 (.t 0)),o1 3 (.bx 60 0 (.t 1)),o1 4 (.mv (.c .sl0))]
abbrev NF:List AO:=
 [o1 5 (.mv (.c .sl0)),o1 6 (.mv (.c .sl0))]
abbrev ND:List AO:=
 [o1 13 (.fa 2 (.t 3)),o1 14 (.fa 3 (.t 3)),o1 15 (.bs 120 1 2 [.p0,.p0] [(0,1,(.t 13)),(1,1,(.t 14))]),o1 16 (.len (.t 15)),o1 17 (.mv (ci 0))]
abbrev NC:List AO:=
 [o1 18 (.bin .lss (.t 17) (.t 16))]
abbrev Nz:List AO:=
 [(mt 19 17),o1 20 (.ia 1 (.t 15) (.t 17)),o1 21 (.ld 1 false (.t 20)),
  (mt 7 19),
  (mt 8 21)]
abbrev NI:List (Nat×AO):=
 [(2,(mt 24 8)),(2,(o1 25 (.nc (.t 24)))),(1,(o1 23 (.ld 2 true (.t 2)))),(1,(o1 26 (.ld 1 false (.t 25)))),
  (3,(o2 27 76 [.t 23,.t 26])),
  (2,(mt 22 27)),(2,(o1 28 (.ext 0 (.t 22)))),(2,(o1 29 (.ext 1 (.t 22)))),
  (2,(mt 9 28)),
  (2,(mt 10 29))]
abbrev Ny:List AO:=
 [(mt 30 10)]
abbrev Nx:List AO:=
 [(mt 31 8),o1 32 (.fa 0 (.t 2)),o1 33 (.ld 1 false (.t 32)),
  (mt 34 7),o1 35 (.bin .add (.t 33) (.t 34)),o1 36 (.nc (.t 31)),
  (o3 (.st 1 (.t 36) (.t 35)))]
abbrev Nw:List AO:=
 [(mt 37 5),
  (mt 38 8),o1 39 (.nc (.t 38)),o1 40 (.ld 1 false (.t 39)),
  (mt 41 9),o1 42 (.bd [.n .i64 0,.n .i64 0,.n .i64 0,.n .i64 0,.n .u32 0] [(0,1,(ci 38)),(1,1,(.t 40)),(2,1,(.c (.n .i64 (-1)))),(3,1,(.c (.n .i64 (-1)))),(4,1,(.t 41))]),o1 43 (.bs 60 5 1 [.n .i64 0,.n .i64 0,.n .i64 0,.n .i64 0,.n .u32 0] [(0,5,(.t 42))]),o1 44 (.app 60 5 40 (.t 37) (.t 43)),
  (mt 5 44)]
abbrev NJ:AC:=
 (.seq (.reg Nz) (.seq (.mix NI) (.seq (.reg Ny) (.cond (.t 30) (.seq (.reg Nx) (.reg Nw)) .skip))))
abbrev F5:List AO:=
 [o1 45 (.bin .add (.t 17) (ci 1)),
  (mt 17 45)]
abbrev F7:AC:=
 (.seq (.reg NC) (.seq (.cond (.t 18) .skip (.exit 0)) (.seq (.block 1 NJ) (.reg F5))))
abbrev F6:AC:=
 (.loop F7)
abbrev F4:List AO:=
 [o1 47 (.ld 2 true (.t 2)),o1 48 (.fa 1 (.t 3)),o1 49 (.ld 1 false (.t 48)),
  (o2 50 76 [.t 47,.t 49]),
  (mt 46 50),o1 51 (.ext 0 (.t 46)),o1 52 (.ext 1 (.t 46)),
  (mt 11 51),
  (mt 12 52)]
abbrev F3:List AO:=
 [(mt 53 12)]
abbrev F2:List AO:=
 [o1 54 (.fa 0 (.t 2)),o1 55 (.ld 1 false (.t 54)),o1 56 (.bin .add (.t 55) (ci 2)),o1 57 (.fa 1 (.t 3)),
  (o3 (.st 1 (.t 57) (.t 56)))]
abbrev F1:List AO:=
 [o1 58 (.fa 1 (.t 3)),o1 59 (.ld 1 false (.t 58)),
  (mt 60 11),o1 61 (.bd [.n .i64 0,.n .i64 0,.n .i64 0,.n .i64 0,.n .u32 0] [(0,1,(ci 37)),(1,1,(.c (.n .i64 (-1)))),(2,1,(.t 59)),(3,1,(.c (.n .i64 (-1)))),(4,1,(.t 60))]),o1 62 (.bs 60 5 1 [.n .i64 0,.n .i64 0,.n .i64 0,.n .i64 0,.n .u32 0] [(0,5,(.t 61))]),
  (o2 63 77 [.t 62]),
  (mt 6 63)]
abbrev w7:List AO:=
 [(mt 64 5),o1 65 (.ld 5 true (.t 3)),o1 66 (.bs 60 5 1 [.n .i64 0,.n .i64 0,.n .i64 0,.n .i64 0,.n .u32 0] [(0,5,(.t 65))]),
  (o2 67 77 [.t 66]),
  (mt 68 6),o1 69 (.bs 23 1 3 [.sl0,.sl0,.sl0] [(0,1,(.t 64)),(1,1,(.t 67)),(2,1,(.t 68))]),
  (o2 70 78 [.t 69]),
  (mt 4 70)]
abbrev RV:AF:=⟨71,(.seq (.reg NG) (.seq (.reg NF) (.seq (.seq (.reg ND) (.block 0 F6)) (.seq (.seq (.reg F4) (.seq (.reg F3) (.cond (.t 53) (.seq (.reg F2) (.reg F1)) .skip))) (.seq (.reg w7) .ret))))),[.mv (.t 4)]⟩
theorem NH:bK Try.prog (aE Try.prog 45) 45=some RV:=by kernel_rfl
/-! allocate.Allocate-/
abbrev Nv:List AO:=
 [o1 2 (.bx 25 0 (.t 0)),o1 4 (.al 25 [.sl0,.n .i64 0,.n .i64 0,.sl0]),o1 5 (.mv (ci 0))]
abbrev Nu:List AO:=
 [o1 15 (.ld 4 true (.t 2)),
  (o2 16 27 [.t 15]),
  (mt 14 16),o1 17 (.ext 0 (.t 14)),o1 18 (.ext 1 (.t 14)),
  (mt 6 17),
  (mt 7 18)]
abbrev Nt:List AO:=
 [(mt 19 7),o1 20 (.bin .neq (.t 19) (ci 0))]
abbrev Ns:List AO:=
 [o1 21 (.bd [.sl0,.n .i64 0,.n .i64 0,.sl0] []),
  (mt 22 7),
  (o3 (.st 4 (.t 4) (.t 21))),
  (mt 5 22)]
abbrev Nr:List AO:=
 [(mt 23 1),o1 24 (.bin .lss (.t 23) (ci 4)),
  (mt 25 24),
  (o4 26 25 (.mv (.t 1))),
  (o4 27 25 (.bin .gtr (.t 26) (ci 1024))),o1 28 (.pick (.t 25) (.c (.b true)) (.t 27))]
abbrev Nq:List AO:=
 [o1 29 (.bd [.sl0,.n .i64 0,.n .i64 0,.sl0] []),
  (o3 (.st 4 (.t 4) (.t 29))),o1 5 (.mv (ci 2))]
abbrev Np:List AO:=
 [o1 31 (.fa 3 (.t 2)),o1 32 (.ld 1 false (.t 31)),
  (o2 33 42 [.t 32]),
  (mt 30 33),o1 34 (.ext 0 (.t 30)),o1 35 (.ext 1 (.t 30)),
  (mt 8 34),
  (mt 9 35)]
abbrev Nn:List AO:=
 [(mt 36 9),
  (mt 37 1),o1 38 (.bin .leq (.t 36) (.t 37))]
abbrev Nm:List AO:=
 [o1 39 (.ld 4 true (.t 2)),
  (mt 40 8),
  (mt 41 9),
  (o2 42 43 [.t 39,.t 40,.t 41]),
  (o3 (.st 4 (.t 4) (.t 42))),o1 5 (.mv (ci 0))]
abbrev Nl:List AO:=
 [(mt 43 1),o1 44 (.bin .sub (.t 43) (ci 3)),o1 45 (.fa 2 (.t 2)),o1 46 (.ld 1 false (.t 45)),o1 47 (.bd [.n .i64 0,.n .i64 0] [(0,1,(.t 44)),(1,1,(.t 46))]),o1 10 (.al 83 [.n .i64 0,.n .i64 0]),
  (o3 (.st 2 (.t 10) (.t 47)))]
abbrev FV:List AO:=
 [o1 48 (.ld 4 true (.t 2)),
  (o2 49 44 [.t 48]),o1 11 (.al 25 [.sl0,.n .i64 0,.n .i64 0,.sl0]),
  (o3 (.st 4 (.t 11) (.t 49)))]
abbrev FX:List (Nat×AO):=
 [(2,(mt 50 1)),(2,(o1 51 (.fa 2 (.t 2)))),
  (2,(mt 53 9)),(2,(o1 55 (.fa 0 (.t 10)))),(2,(o1 58 (.fa 1 (.t 11)))),(1,(o1 52 (.ld 1 false (.t 51)))),(2,(o1 54 (.bin .add (.t 52) (.t 53)))),(1,(o1 56 (.ld 1 false (.t 55)))),(2,(o1 57 (.bin .sub (.t 54) (.t 56)))),
  (0,(o3 (.st 1 (.t 58) (.t 50)))),(2,(o1 59 (.fa 2 (.t 11)))),
  (3,(o3 (.st 1 (.t 59) (.t 57)))),(2,(o1 60 (.fa 3 (.t 11)))),
  (3,(o3 (.st 1 (.t 60) (.c .sl0))))]
abbrev FU:List AO:=
 [o1 61 (.fa 3 (.t 2)),o1 62 (.ld 1 false (.t 61)),o1 63 (.len (.t 62)),o1 64 (.mv (ci 0))]
abbrev FT:List AO:=
 [o1 65 (.bin .lss (.t 64) (.t 63))]
abbrev FS:List AO:=
 [o1 66 (.ia 5 (.t 62) (.t 64)),o1 67 (.ld 5 true (.t 66)),o1 13 (.al 60 [.n .i64 0,.n .i64 0,.n .i64 0,.n .i64 0,.n .u32 0]),
  (o3 (.st 5 (.t 13) (.t 67)))]
abbrev FW:List (Nat×AO):=
 [(2,(o1 68 (.fa 3 (.t 11)))),
  (2,(mt 72 8)),(1,(o1 69 (.ld 1 false (.t 68)))),(1,(o1 70 (.ld 2 true (.t 10)))),(1,(o1 71 (.ld 5 true (.t 13)))),
  (0,(o2 73 46 [.t 71,.t 72])),
  (0,(o2 74 45 [.t 70,.t 73])),(3,(o1 75 (.app 60 5 40 (.t 69) (.t 74)))),(2,(o1 76 (.fa 3 (.t 11)))),
  (3,(o3 (.st 1 (.t 76) (.t 75))))]
abbrev FZ:AC:=
 (.seq (.reg FS) (.mix FW))
abbrev FR:List AO:=
 [o1 77 (.bin .add (.t 64) (ci 1)),
  (mt 64 77)]
abbrev F0:AC:=
 (.seq (.reg FT) (.seq (.cond (.t 65) .skip (.exit 0)) (.seq (.block 1 FZ) (.reg FR))))
abbrev FY:AC:=
 (.loop F0)
abbrev FQ:List AO:=
 [o1 78 (.fa 2 (.t 11)),o1 79 (.ld 1 false (.t 78)),o1 80 (.bin .gtr (.t 79) (ci 1024)),
  (mt 81 80),
  (o4 82 81 (.fa 3 (.t 11))),
  (o4 83 81 (.ld 1 false (.t 82))),
  (o4 84 81 (.len (.t 83))),
  (o4 85 81 (.bin .gtr (.t 84) (ci 16384))),o1 86 (.pick (.t 81) (.c (.b true)) (.t 85))]
abbrev FP:List AO:=
 [o1 87 (.bd [.sl0,.n .i64 0,.n .i64 0,.sl0] []),
  (o3 (.st 4 (.t 4) (.t 87))),o1 5 (.mv (ci 6))]
abbrev FO:List AO:=
 [o1 88 (.ld 4 true (.t 11)),
  (o3 (.st 4 (.t 4) (.t 88))),o1 5 (.mv (ci 0))]
abbrev RU:AF:=⟨89,(.seq (.reg Nv) (.seq (.seq (.reg Nu) (.seq (.reg Nt) (.cond (.t 20) (.seq (.reg Ns) .ret) .skip))) (.seq (.seq (.reg Nr) (.cond (.t 28) (.seq (.reg Nq) .ret) .skip)) (.seq (.reg Np) (.seq (.seq (.reg Nn) (.cond (.t 38) (.seq (.reg Nm) .ret) .skip)) (.seq (.reg Nl) (.seq (.reg FV) (.seq (.mix FX) (.seq (.seq (.reg FU) (.block 0 FY)) (.seq (.seq (.reg FQ) (.cond (.t 86) (.seq (.reg FP) .ret) .skip)) (.seq (.reg FO) .ret))))))))))),[.ld 4 true (.t 4),.mv (.t 5)]⟩
theorem CY:bK Try.prog (aE Try.prog 17) 17=some RU:=by kernel_rfl
/-! allocate.Live-/
abbrev Nj:List AO:=
 [o1 1 (.bx 25 0 (.t 0)),o1 2 (.mv (.c .sl0)),o1 3 (.mv (ci 0))]
abbrev Ni:List AO:=
 [o1 12 (.ld 4 true (.t 1)),
  (o2 13 27 [.t 12]),
  (mt 11 13),o1 14 (.ext 0 (.t 11)),o1 15 (.ext 1 (.t 11)),
  (mt 4 14),
  (mt 5 15)]
abbrev Nh:List AO:=
 [(mt 16 5),o1 17 (.bin .neq (.t 16) (ci 0))]
abbrev Ng:List AO:=
 [(mt 18 5),o1 2 (.mv (.c .sl0)),
  (mt 3 18)]
abbrev Nf:List AO:=
 [o1 20 (.fa 3 (.t 1)),o1 21 (.ld 1 false (.t 20)),
  (o2 22 36 [.t 21]),
  (mt 19 22),o1 23 (.ext 0 (.t 19)),o1 24 (.ext 1 (.t 19)),
  (mt 6 23),
  (mt 7 24)]
abbrev Nd:List AO:=
 [o1 8 (.mv (.c .sl0))]
abbrev Nc:List AO:=
 [(mt 25 6),o1 26 (.len (.t 25)),o1 27 (.mv (ci 0))]
abbrev Nb:List AO:=
 [o1 28 (.bin .lss (.t 27) (.t 26))]
abbrev Na:List AO:=
 [o1 29 (.ia 1 (.t 25) (.t 27)),o1 30 (.ld 1 false (.t 29)),
  (mt 10 30)]
abbrev M9:List AO:=
 [(mt 31 8),
  (mt 32 10),
  (o2 33 38 [.t 32]),
  (o2 34 37 [.t 33]),o1 35 (.bs 39 1 1 [.sl0] [(0,1,(.t 34))]),o1 36 (.app 39 1 24 (.t 31) (.t 35)),
  (mt 8 36)]
abbrev FM:AC:=
 (.seq (.reg Na) (.reg M9))
abbrev FK:List AO:=
 [o1 37 (.bin .add (.t 27) (ci 1)),
  (mt 27 37)]
abbrev FN:AC:=
 (.seq (.reg Nb) (.seq (.cond (.t 28) .skip (.exit 0)) (.seq (.block 1 FM) (.reg FK))))
abbrev FL:AC:=
 (.loop FN)
abbrev FJ:List AO:=
 [(mt 38 8),
  (mt 2 38),o1 3 (.mv (ci 0))]
abbrev RG:AF:=⟨39,(.seq (.reg Nj) (.seq (.seq (.reg Ni) (.seq (.reg Nh) (.cond (.t 17) (.seq (.reg Ng) .ret) .skip))) (.seq (.reg Nf) (.seq (.reg Nd) (.seq (.seq (.reg Nc) (.block 0 FL)) (.seq (.reg FJ) .ret)))))),[.mv (.t 2),.mv (.t 3)]⟩
theorem Nk:bK Try.prog (aE Try.prog 11) 11=some RG:=by kernel_rfl
/-! slices.Concat[[]api.RegInstr,api.RegInstr]-/
abbrev M5:List AO:=
 [o1 2 (.mv (.c .sl0))]
abbrev M4:List AO:=
 [o1 3 (.mv (ci 0))]
abbrev M3:List AO:=
 [(mt 9 0),o1 10 (.len (.t 9)),o1 11 (.mv (ci 0))]
abbrev M2:List AO:=
 [o1 12 (.bin .lss (.t 11) (.t 10))]
abbrev M1:List AO:=
 [o1 13 (.ia 1 (.t 9) (.t 11)),o1 14 (.ld 1 false (.t 13)),
  (mt 5 14)]
abbrev M0:List AO:=
 [(mt 15 3),
  (mt 16 5),o1 17 (.len (.t 16)),o1 18 (.bin .add (.t 15) (.t 17)),
  (mt 3 18)]
abbrev MZ:List AO:=
 [(mt 19 3),o1 20 (.bin .lss (.t 19) (ci 0))]
abbrev M7:AC:=
 (.seq (.reg M1) (.seq (.reg M0) (.seq (.reg MZ) (.cond (.t 20) .die .skip))))
abbrev MY:List AO:=
 [o1 22 (.bin .add (.t 11) (ci 1)),
  (mt 11 22)]
abbrev M8:AC:=
 (.seq (.reg M2) (.seq (.cond (.t 12) .skip (.exit 0)) (.seq (.block 1 M7) (.reg MY))))
abbrev FH:AC:=
 (.loop M8)
abbrev FE:List AO:=
 [(mt 23 3),
  (o2 24 95 [(.c .sl0),.t 23]),
  (mt 6 24)]
abbrev FD:List AO:=
 [(mt 25 0),o1 26 (.len (.t 25)),o1 27 (.mv (ci 0))]
abbrev FC:List AO:=
 [o1 28 (.bin .lss (.t 27) (.t 26))]
abbrev FB:List AO:=
 [o1 29 (.ia 1 (.t 25) (.t 27)),o1 30 (.ld 1 false (.t 29)),
  (mt 8 30)]
abbrev FA:List AO:=
 [(mt 31 6),
  (mt 32 8),o1 33 (.app 60 5 40 (.t 31) (.t 32)),
  (mt 6 33)]
abbrev FG:AC:=
 (.seq (.reg FB) (.reg FA))
abbrev Fy:List AO:=
 [o1 34 (.bin .add (.t 27) (ci 1)),
  (mt 27 34)]
abbrev FI:AC:=
 (.seq (.reg FC) (.seq (.cond (.t 28) .skip (.exit 2)) (.seq (.block 3 FG) (.reg Fy))))
abbrev FF:AC:=
 (.loop FI)
abbrev Fx:List AO:=
 [(mt 35 6),
  (mt 2 35)]
abbrev RF:AF:=⟨36,(.seq (.reg M5) (.seq (.reg M4) (.seq (.seq (.reg M3) (.block 0 FH)) (.seq (.reg FE) (.seq (.seq (.reg FD) (.block 2 FF)) (.seq (.reg Fx) .ret)))))),[.mv (.t 2)]⟩
theorem M6:bK Try.prog (aE Try.prog 78) 78=some RF:=by kernel_rfl
/-! slices.Grow[[]api.RegInstr,api.RegInstr]-/
abbrev MW:List AO:=
 [o1 4 (.mv (.c .sl0))]
abbrev MV:List AO:=
 [(mt 5 1),o1 6 (.bin .lss (.t 5) (ci 0))]
abbrev MU:List AO:=
 [(mt 8 1),
  (mt 9 0),o1 10 (.cpc (.t 9)),
  (mt 11 0),o1 12 (.len (.t 11)),o1 13 (.bin .sub (.t 10) (.t 12)),o1 14 (.bin .sub (.t 8) (.t 13)),
  (mt 1 14)]
abbrev MT:List AO:=
 [(mt 15 1),o1 16 (.bin .gtr (.t 15) (ci 0))]
abbrev MS:List AO:=
 [(mt 17 0),
  (mt 18 0),o1 19 (.cpc (.t 18)),o1 20 (.sl 5 (.t 17) none (some (.t 19))),
  (mt 21 1),o1 22 (.apm 60 5 40 [.n .i64 0,.n .i64 0,.n .i64 0,.n .i64 0,.n .u32 0] (.t 20) (.t 21)),
  (mt 23 0),o1 24 (.len (.t 23)),o1 25 (.sl 5 (.t 22) none (some (.t 24))),
  (mt 0 25)]
abbrev MR:List AO:=
 [(mt 26 0),
  (mt 4 26)]
abbrev RE:AF:=⟨27,(.seq (.reg MW) (.seq (.seq (.reg MV) (.cond (.t 6) .die .skip)) (.seq (.seq (.reg MU) (.seq (.reg MT) (.cond (.t 16) (.reg MS) .skip))) (.seq (.reg MR) .ret)))),[.mv (.t 4)]⟩
theorem MX:bK Try.prog (aE Try.prog 95) 95=some RE:=by kernel_rfl
/-! slices.DeleteFunc[[]api.RegInstr,api.RegInstr]-/
abbrev MP:List AO:=
 [o1 4 (.mv (.c .sl0))]
abbrev MN:List AO:=
 [(mt 8 0),
  (mt 9 1),
  (o2 10 65 [.t 8,.t 9]),
  (mt 5 10)]
abbrev MM:List AO:=
 [(mt 11 5),o1 12 (.bin .eql (.t 11) (.c (.n .i64 (-1))))]
abbrev ML:List AO:=
 [(mt 13 0),
  (mt 4 13)]
abbrev MJ:List AO:=
 [(mt 14 5),o1 15 (.bin .add (.t 14) (ci 1)),
  (mt 6 15)]
abbrev MI:List AO:=
 [(mt 16 6),
  (mt 17 0),o1 18 (.len (.t 17)),o1 19 (.bin .lss (.t 16) (.t 18))]
abbrev MH:List AO:=
 [(mt 22 0),
  (mt 23 6),o1 24 (.ia 5 (.t 22) (.t 23)),o1 25 (.ld 5 true (.t 24)),o1 7 (.al 60 [.n .i64 0,.n .i64 0,.n .i64 0,.n .i64 0,.n .u32 0]),
  (o3 (.st 5 (.t 7) (.t 25)))]
abbrev MG:List AO:=
 [(mt 26 1),o1 27 (.ld 5 true (.t 7)),⟨some 28,none,.cl (.t 26) [.t 27]⟩,o1 29 (.un .not (.t 28))]
abbrev MF:List AO:=
 [(mt 30 0),
  (mt 31 5),o1 32 (.ld 5 true (.t 7)),o1 33 (.ia 5 (.t 30) (.t 31)),
  (o3 (.st 5 (.t 33) (.t 32)))]
abbrev ME:List AO:=
 [(mt 34 5),o1 35 (.bin .add (.t 34) (ci 1)),
  (mt 5 35)]
abbrev Fv:AC:=
 (.seq (.reg MH) (.seq (.reg MG) (.cond (.t 29) (.seq (.reg MF) (.reg ME)) .skip)))
abbrev Ft:List AO:=
 [(mt 20 6),o1 21 (.bin .add (.t 20) (ci 1)),
  (mt 6 21)]
abbrev Fw:AC:=
 (.seq (.seq (.reg MI) (.cond (.t 19) .skip (.exit 0))) (.seq (.block 1 Fv) (.reg Ft)))
abbrev Fu:AC:=
 (.loop Fw)
abbrev Fs:List AO:=
 [(mt 36 0),
  (mt 37 5),o1 38 (.sl 5 (.t 36) (some (.t 37)) none),
  (o3 (.clr [.n .i64 0,.n .i64 0,.n .i64 0,.n .i64 0,.n .u32 0] (.t 38)))]
abbrev Fq:List AO:=
 [(mt 39 0),
  (mt 40 5),o1 41 (.sl 5 (.t 39) none (some (.t 40))),
  (mt 4 41)]
abbrev RD:AF:=⟨42,(.seq (.reg MP) (.seq (.reg MN) (.seq (.seq (.reg MM) (.cond (.t 12) (.seq (.reg ML) .ret) .skip)) (.seq (.seq (.reg MJ) (.block 0 Fu)) (.seq (.reg Fs) (.seq (.reg Fq) .ret)))))),[.mv (.t 4)]⟩
theorem MQ:bK Try.prog (aE Try.prog 28) 28=some RD:=by kernel_rfl
/-! allocate.liveness-/
abbrev MA:List AO:=
 [o1 2 (.mv (.c .sl0)),o1 3 (.mv (.c .sl0))]
abbrev Mz:List AO:=
 [(mt 18 0),
  (o2 19 66 [.t 18]),o1 4 (.al 28 [.sl0]),
  (o3 (.st 1 (.t 4) (.t 19)))]
abbrev My:List AO:=
 [(mt 20 0),o1 21 (.len (.t 20)),o1 22 (.bin .add (.t 21) (ci 1)),o1 23 (.ms 70 1 8 [.cv (.map none)] (.t 22) (.t 22)),o1 5 (.al 66 [.sl0]),
  (o3 (.st 1 (.t 5) (.t 23)))]
abbrev Mx:List AO:=
 [o1 24 (.ld 1 false (.t 5)),o1 25 (.len (.t 24)),o1 26 (.mv (ci 0))]
abbrev Mw:List AO:=
 [o1 27 (.bin .lss (.t 26) (.t 25))]
abbrev Mv:List AO:=
 [(mt 28 26),
  (mt 6 28)]
abbrev Mu:List AO:=
 [o1 29 (.ld 1 false (.t 5)),
  (mt 30 6),⟨some 31,none,.mo (.mm)⟩,o1 32 (.ia 1 (.t 29) (.t 30)),
  (o3 (.st 1 (.t 32) (.t 31)))]
abbrev MC:AC:=
 (.seq (.reg Mv) (.reg Mu))
abbrev Mt:List AO:=
 [o1 33 (.bin .add (.t 26) (ci 1)),
  (mt 26 33)]
abbrev MD:AC:=
 (.seq (.reg Mw) (.seq (.cond (.t 27) .skip (.exit 0)) (.seq (.block 1 MC) (.reg Mt))))
abbrev Fk:AC:=
 (.loop MD)
abbrev E8:List AO:=
 [o1 7 (.al 4 [.b false]),
  (o3 (.st 1 (.t 7) (.c (.b true))))]
abbrev E7:List AO:=
 [o1 34 (.ld 1 false (.t 7))]
abbrev E6:List AO:=
 [(o3 (.st 1 (.t 7) (.c (.b false))))]
abbrev E5:List AO:=
 [(mt 35 0),
  (o2 36 67 [.t 35])]
abbrev E4:List AO:=
 [(mt 8 37)]
abbrev E3:List AO:=
 [o1 9 (.al 60 [.n .i64 0,.n .i64 0,.n .i64 0,.n .i64 0,.n .u32 0]),
  (o3 (.st 5 (.t 9) (.t 38)))]
abbrev E1:List AO:=
 [o1 39 (.ld 1 false (.t 5)),
  (mt 40 8),o1 41 (.ia 1 (.t 39) (.t 40)),o1 42 (.ld 1 false (.t 41)),⟨some 43,none,.mo (.ln (.t 42))⟩,
  (mt 10 43)]
abbrev E0:List AO:=
 [o1 45 (.ld 5 true (.t 9)),
  (o2 46 68 [.t 45]),
  (mt 44 46),o1 47 (.ext 0 (.t 44)),o1 48 (.ext 1 (.t 44)),
  (mt 11 47),
  (mt 12 48)]
abbrev EZ:List AO:=
 [o1 49 (.ld 1 false (.t 4)),
  (mt 50 8),o1 51 (.ia 1 (.t 49) (.t 50)),o1 52 (.ld 1 false (.t 51)),o1 53 (.len (.t 52)),o1 54 (.mv (ci 0))]
abbrev EY:List AO:=
 [o1 55 (.bin .lss (.t 54) (.t 53))]
abbrev EX:List AO:=
 [o1 56 (.ia 1 (.t 52) (.t 54)),o1 57 (.ld 1 false (.t 56)),
  (mt 14 57)]
abbrev EW:List AO:=
 [o1 58 (.ld 1 false (.t 5)),
  (mt 59 14),o1 60 (.ia 1 (.t 58) (.t 59)),o1 61 (.ld 1 false (.t 60)),⟨some 62,none,.mo (.rg (.t 61))⟩]
abbrev EV:List AO:=
 [⟨some 63,none,.mo (.nx (.t 62))⟩,o1 64 (.ext 0 (.t 63))]
abbrev EU:List AO:=
 [⟨some 65,none,.mo (.en (.t 62))⟩,o1 66 (.ext 0 (.t 65)),
  (mt 15 66)]
abbrev ET:List AO:=
 [(mt 67 15),
  (mt 68 12),o1 69 (.bin .neq (.t 67) (.t 68))]
abbrev ES:List AO:=
 [o1 70 (.ld 1 false (.t 5)),
  (mt 71 8),o1 72 (.ia 1 (.t 70) (.t 71)),o1 73 (.ld 1 false (.t 72)),
  (mt 74 15),⟨none,none,.mo (.mu (.t 73) (.t 74) (.c (.b true)))⟩]
abbrev Fj:AC:=
 (.seq (.reg EU) (.seq (.reg ET) (.cond (.t 69) (.reg ES) .skip)))
abbrev Fp:AC:=
 (.seq (.reg EV) (.seq (.cond (.t 64) .skip (.exit 8)) (.block 9 Fj)))
abbrev Fi:AC:=
 (.loop Fp)
abbrev Fh:AC:=
 (.seq (.reg EX) (.seq (.reg EW) (.block 8 Fi)))
abbrev EP:List AO:=
 [o1 75 (.bin .add (.t 54) (ci 1)),
  (mt 54 75)]
abbrev Fo:AC:=
 (.seq (.reg EY) (.seq (.cond (.t 55) .skip (.exit 6)) (.seq (.block 7 Fh) (.reg EP))))
abbrev Fg:AC:=
 (.loop Fo)
abbrev EO:List AO:=
 [(mt 76 11),o1 77 (.len (.t 76)),o1 78 (.mv (ci 0))]
abbrev EM:List AO:=
 [o1 79 (.bin .lss (.t 78) (.t 77))]
abbrev EL:List AO:=
 [o1 80 (.ia 1 (.t 76) (.t 78)),o1 81 (.ld 1 false (.t 80)),
  (mt 17 81)]
abbrev EK:List AO:=
 [o1 82 (.ld 1 false (.t 5)),
  (mt 83 8),o1 84 (.ia 1 (.t 82) (.t 83)),o1 85 (.ld 1 false (.t 84)),
  (mt 86 17),⟨none,none,.mo (.mu (.t 85) (.t 86) (.c (.b true)))⟩]
abbrev Ff:AC:=
 (.seq (.reg EL) (.reg EK))
abbrev EJ:List AO:=
 [o1 87 (.bin .add (.t 78) (ci 1)),
  (mt 78 87)]
abbrev Fm:AC:=
 (.seq (.reg EM) (.seq (.cond (.t 79) .skip (.exit 10)) (.seq (.block 11 Ff) (.reg EJ))))
abbrev Fe:AC:=
 (.loop Fm)
abbrev EI:List AO:=
 [o1 88 (.ld 1 false (.t 7)),
  (mt 89 88),
  (o4 90 89 (.ld 1 false (.t 5))),
  (o4 91 89 (.mv (.t 8))),
  (o4 92 89 (.ia 1 (.t 90) (.t 91))),
  (o4 93 89 (.ld 1 false (.t 92))),⟨some 94,some (89,false),.mo (.ln (.t 93))⟩,
  (o4 95 89 (.mv (.t 10))),
  (o4 96 89 (.bin .gtr (.t 94) (.t 95))),o1 97 (.pick (.t 89) (.c (.b true)) (.t 96)),
  (o3 (.st 1 (.t 7) (.t 97)))]
abbrev Fd:AC:=
 (.seq (.reg E1) (.seq (.reg E0) (.seq (.seq (.reg EZ) (.block 6 Fg)) (.seq (.seq (.reg EO) (.block 10 Fe)) (.reg EI)))))
abbrev w6:AC:=
 (.block 5 Fd)
abbrev Fc:AC:=
 (.rf (.t 36) 37 38 (.seq (.reg E4) (.reg E3)) w6)
abbrev Fb:AC:=
 (.seq (.reg E6) (.seq (.reg E5) (.block 4 Fc)))
abbrev EH:List AO:=
 [o1 98 (.ld 1 false (.t 7))]
abbrev EG:List AO:=
 [o1 7 (.al 4 [.b false]),
  (o3 (.st 1 (.t 7) (.t 98)))]
abbrev Fl:AC:=
 (.seq (.seq (.reg E7) (.cond (.t 34) .skip (.exit 2))) (.seq (.block 3 Fb) (.seq (.reg EH) (.reg EG))))
abbrev Fa:AC:=
 (.loop Fl)
abbrev E9:List (Nat×AO):=
 [(1,(o1 99 (.ld 1 false (.t 5)))),
  (2,(mt 2 99)),(1,(o1 100 (.ld 1 false (.t 4)))),
  (2,(mt 3 100))]
abbrev RC:AF:=⟨101,(.seq (.reg MA) (.seq (.reg Mz) (.seq (.reg My) (.seq (.seq (.reg Mx) (.block 0 Fk)) (.seq (.seq (.reg E8) (.block 2 Fa)) (.seq (.mix E9) .ret)))))),[.mv (.t 2),.mv (.t 3)]⟩
theorem MB:bK Try.prog (aE Try.prog 36) 36=some RC:=by kernel_rfl
/-! slices.Backward[[]api.RegInstr,api.RegInstr]-/
abbrev Mr:List AO:=
 [o1 1 (.bx 23 0 (.t 0)),o1 2 (.mv (.c .f0))]
abbrev Mq:List AO:=
 [o1 3 (.mf 87 [] [.t 1]),
  (mt 2 3)]
abbrev RB:AF:=⟨4,(.seq (.reg Mr) (.seq (.reg Mq) .ret)),[.mv (.t 2)]⟩
theorem Ms:bK Try.prog (aE Try.prog 67) 67=some RB:=by kernel_rfl
/-! maps.Keys[allocate.set,int,bool]-/
abbrev Mo:List AO:=
 [o1 1 (.bx 70 0 (.t 0)),o1 2 (.mv (.c .f0))]
abbrev Mn:List AO:=
 [o1 3 (.mf 71 [] [.t 1]),
  (mt 2 3)]
abbrev RA:AF:=⟨4,(.seq (.reg Mo) (.seq (.reg Mn) .ret)),[.mv (.t 2)]⟩
theorem Mp:bK Try.prog (aE Try.prog 38) 38=some RA:=by kernel_rfl
/-! allocate.Pressure-/
abbrev Mi:List AO:=
 [o1 1 (.bx 25 0 (.t 0)),o1 2 (.mv (ci 0)),o1 3 (.mv (ci 0))]
abbrev Mh:List AO:=
 [o1 10 (.ld 4 true (.t 1)),
  (o2 11 11 [.t 10]),
  (mt 9 11),o1 12 (.ext 0 (.t 9)),o1 13 (.ext 1 (.t 9)),
  (mt 4 12),
  (mt 5 13)]
abbrev Mg:List AO:=
 [o1 6 (.mv (ci 0))]
abbrev Mf:List AO:=
 [(mt 14 4),o1 15 (.len (.t 14)),o1 16 (.mv (ci 0))]
abbrev Me:List AO:=
 [o1 17 (.bin .lss (.t 16) (.t 15))]
abbrev Md:List AO:=
 [o1 18 (.ia 1 (.t 14) (.t 16)),o1 19 (.ld 1 false (.t 18)),
  (mt 8 19)]
abbrev Mc:List AO:=
 [(mt 20 6),
  (mt 21 8),o1 22 (.len (.t 21)),⟨some 23,none,.mo (.mx (.t 20) (.t 22))⟩,
  (mt 6 23)]
abbrev Ml:AC:=
 (.seq (.reg Md) (.reg Mc))
abbrev Mb:List AO:=
 [o1 24 (.bin .add (.t 16) (ci 1)),
  (mt 16 24)]
abbrev Mm:AC:=
 (.seq (.reg Me) (.seq (.cond (.t 17) .skip (.exit 0)) (.seq (.block 1 Ml) (.reg Mb))))
abbrev EF:AC:=
 (.loop Mm)
abbrev EE:List AO:=
 [(mt 25 6),
  (mt 26 5),
  (mt 2 25),
  (mt 3 26)]
abbrev Rz:AF:=⟨27,(.seq (.reg Mi) (.seq (.reg Mh) (.seq (.reg Mg) (.seq (.seq (.reg Mf) (.block 0 EF)) (.seq (.reg EE) .ret))))),[.mv (.t 2),.mv (.t 3)]⟩
theorem Mj:bK Try.prog (aE Try.prog 13) 13=some Rz:=by kernel_rfl
/-! allocate.colors-/
abbrev L9:List AO:=
 [o1 2 (.mv (.c (.cv (.map none)))),o1 3 (.mv (ci 0))]
abbrev L8:List AO:=
 [(mt 14 0),
  (o2 15 74 [.t 14]),
  (mt 4 15)]
abbrev L7:List AO:=
 [⟨some 16,none,.mo (.mm)⟩,
  (mt 5 16)]
abbrev L6:List AO:=
 [o1 6 (.mv (ci 0))]
abbrev L5:List AO:=
 [(mt 17 0),
  (o2 18 52 [.t 17]),o1 19 (.len (.t 18)),o1 20 (.mv (ci 0))]
abbrev L4:List AO:=
 [o1 21 (.bin .lss (.t 20) (.t 19))]
abbrev L3:List AO:=
 [o1 22 (.ia 1 (.t 18) (.t 20)),o1 23 (.ld 1 false (.t 22)),
  (mt 8 23)]
abbrev L2:List AO:=
 [⟨some 24,none,.mo (.mm)⟩,
  (mt 9 24)]
abbrev L1:List AO:=
 [(mt 25 4),
  (mt 26 8),⟨some 27,none,.mo (.lk (.cv (.map none)) false (.t 25) (.t 26))⟩,⟨some 28,none,.mo (.rg (.t 27))⟩]
abbrev L0:List AO:=
 [⟨some 29,none,.mo (.nx (.t 28))⟩,o1 30 (.ext 0 (.t 29))]
abbrev Ev:List AO:=
 [⟨some 31,none,.mo (.en (.t 28))⟩,o1 32 (.ext 0 (.t 31)),
  (mt 10 32)]
abbrev Eu:List AO:=
 [(mt 34 5),
  (mt 35 10),⟨some 36,none,.mo (.lk (.n .i64 0) true (.t 34) (.t 35))⟩,
  (mt 33 36),o1 37 (.ext 0 (.t 33)),o1 38 (.ext 1 (.t 33)),
  (mt 11 37),
  (mt 12 38)]
abbrev Et:List AO:=
 [(mt 39 12)]
abbrev Es:List AO:=
 [(mt 40 9),
  (mt 41 11),⟨none,none,.mo (.mu (.t 40) (.t 41) (.c (.b true)))⟩]
abbrev EA:AC:=
 (.seq (.reg Ev) (.seq (.reg Eu) (.seq (.reg Et) (.cond (.t 39) (.reg Es) .skip))))
abbrev ED:AC:=
 (.seq (.reg L0) (.seq (.cond (.t 30) .skip (.exit 2)) (.block 3 EA)))
abbrev Ez:AC:=
 (.loop ED)
abbrev Er:List AO:=
 [o1 13 (.mv (ci 0))]
abbrev Ep:List AO:=
 [(mt 42 9),
  (mt 43 13),⟨some 44,none,.mo (.lk (.b false) false (.t 42) (.t 43))⟩]
abbrev Eo:List AO:=
 [(mt 45 13),o1 46 (.bin .add (.t 45) (ci 1)),
  (mt 13 46)]
abbrev Ey:AC:=
 (.reg Eo)
abbrev EC:AC:=
 (.seq (.seq (.reg Ep) (.cond (.t 44) .skip (.exit 4))) (.block 5 Ey))
abbrev w5:AC:=
 (.loop EC)
abbrev wZ:List AO:=
 [(mt 47 5),
  (mt 48 8),
  (mt 49 13),⟨none,none,.mo (.mu (.t 47) (.t 48) (.t 49))⟩]
abbrev wY:List AO:=
 [(mt 50 6),
  (mt 51 13),o1 52 (.bin .add (.t 51) (ci 1)),⟨some 53,none,.mo (.mx (.t 50) (.t 52))⟩,
  (mt 6 53)]
abbrev Ex:AC:=
 (.seq (.reg L3) (.seq (.reg L2) (.seq (.seq (.reg L1) (.block 2 Ez)) (.seq (.reg Er) (.seq (.block 4 w5) (.seq (.reg wZ) (.reg wY)))))))
abbrev En:List AO:=
 [o1 54 (.bin .add (.t 20) (ci 1)),
  (mt 20 54)]
abbrev EB:AC:=
 (.seq (.reg L4) (.seq (.cond (.t 21) .skip (.exit 0)) (.seq (.block 1 Ex) (.reg En))))
abbrev Ew:AC:=
 (.loop EB)
abbrev Em:List AO:=
 [(mt 55 5),
  (mt 56 6),
  (mt 2 55),
  (mt 3 56)]
abbrev Ry:AF:=⟨57,(.seq (.reg L9) (.seq (.reg L8) (.seq (.reg L7) (.seq (.reg L6) (.seq (.seq (.reg L5) (.block 0 Ew)) (.seq (.reg Em) .ret)))))),[.mv (.t 2),.mv (.t 3)]⟩
theorem Ma:bK Try.prog (aE Try.prog 42) 42=some Ry:=by kernel_rfl
/-! compactorref25.Few-/
abbrev LY:List AO:=
 [o1 1 (.bx 25 0 (.t 0)),o1 2 (.mv (.c (.b false)))]
abbrev LX:List AO:=
 [o1 3 (.ld 4 true (.t 1)),
  (o2 4 33 [.t 3]),
  (mt 5 4),
  (o5 6 5 (.fa 1 (.t 1))),
  (o5 7 5 (.ld 1 false (.t 6))),
  (o5 8 5 (.bin .leq (.t 7) (ci 60))),
  (o5 9 5 (.mv (.t 8))),
  (o4 10 9 (.fa 1 (.t 1))),
  (o4 11 9 (.ld 1 false (.t 10))),
  (o4 12 9 (.bin .gtr (.t 11) (ci 1024))),
  (o5 13 5 (.pick (.t 9) (.c (.b true)) (.t 12))),o1 14 (.pick (.t 5) (.t 13) (.c (.b false))),
  (mt 2 14)]
abbrev Rx:AF:=⟨15,(.seq (.reg LY) (.seq (.reg LX) .ret)),[.mv (.t 2)]⟩
theorem LZ:bK Try.prog (aE Try.prog 9) 9=some Rx:=by kernel_rfl
/-! compactorref25.Live-/
abbrev LS:List AO:=
 [o1 1 (.bx 25 0 (.t 0)),o1 2 (.mv (.c .sl0)),o1 3 (.mv (ci 0))]
abbrev LR:List AO:=
 [o1 10 (.ld 4 true (.t 1)),
  (o2 11 39 [.t 10]),
  (mt 9 11),o1 12 (.ext 0 (.t 9)),o1 13 (.ext 1 (.t 9)),
  (mt 4 12),
  (mt 5 13)]
abbrev LQ:List AO:=
 [(mt 14 5),o1 15 (.bin .neq (.t 14) (ci 0))]
abbrev LP:List AO:=
 [(mt 16 5),o1 2 (.mv (.c .sl0)),
  (mt 3 16)]
abbrev LO:List AO:=
 [o1 17 (.ld 4 true (.t 1)),
  (o2 18 40 [.t 17]),
  (mt 6 18)]
abbrev LN:List AO:=
 [o1 7 (.mv (.c .sl0))]
abbrev LM:List AO:=
 [o1 8 (.mv (ci 0))]
abbrev LL:List AO:=
 [(mt 19 8),
  (mt 20 6),o1 21 (.len (.t 20)),o1 22 (.bin .lss (.t 19) (.t 21))]
abbrev LK:List AO:=
 [(mt 25 7),
  (mt 26 6),
  (mt 27 8),o1 28 (.ia 1 (.t 26) (.t 27)),o1 29 (.ld 1 false (.t 28)),
  (o2 30 41 [.t 29]),o1 31 (.bs 39 1 1 [.sl0] [(0,1,(.t 30))]),o1 32 (.app 39 1 24 (.t 25) (.t 31)),
  (mt 7 32)]
abbrev LV:AC:=
 (.reg LK)
abbrev Ej:List AO:=
 [(mt 23 8),o1 24 (.bin .add (.t 23) (ci 1)),
  (mt 8 24)]
abbrev El:AC:=
 (.seq (.seq (.reg LL) (.cond (.t 22) .skip (.exit 0))) (.seq (.block 1 LV) (.reg Ej)))
abbrev Ek:AC:=
 (.loop El)
abbrev Ei:List AO:=
 [(mt 33 7),
  (mt 2 33),o1 3 (.mv (ci 0))]
abbrev Rk:AF:=⟨34,(.seq (.reg LS) (.seq (.seq (.reg LR) (.seq (.reg LQ) (.cond (.t 15) (.seq (.reg LP) .ret) .skip))) (.seq (.reg LO) (.seq (.reg LN) (.seq (.seq (.reg LM) (.block 0 Ek)) (.seq (.reg Ei) .ret)))))),[.mv (.t 2),.mv (.t 3)]⟩
theorem LU:bK Try.prog (aE Try.prog 12) 12=some Rk:=by kernel_rfl
/-! compactorref25.Pressure-/
/-! compactorref25.Allocate-/
/-! compactorref25.Compact-/
/-! compactorref25.live-/
abbrev LG:List AO:=
 [o1 1 (.bx 25 0 (.t 0)),o1 2 (.mv (.c .sl0))]
abbrev LF:List AO:=
 [o1 18 (.fa 3 (.t 1)),o1 19 (.ld 1 false (.t 18)),
  (o2 20 23 [.t 19]),
  (mt 17 20),o1 21 (.ext 0 (.t 17)),o1 22 (.ext 1 (.t 17)),o1 23 (.ext 2 (.t 17)),
  (mt 3 21),
  (mt 4 22),
  (mt 5 23)]
abbrev LD:List AO:=
 [o1 24 (.fa 3 (.t 1)),o1 25 (.ld 1 false (.t 24)),o1 26 (.len (.t 25)),
  (mt 6 26)]
abbrev LC:List AO:=
 [o1 7 (.mv (.c .sl0))]
abbrev LB:List AO:=
 [o1 8 (.mv (ci 0))]
abbrev LA:List AO:=
 [(mt 27 8),
  (mt 28 6),o1 29 (.bin .leq (.t 27) (.t 28))]
abbrev Lz:List AO:=
 [(mt 32 7),o1 33 (.fa 1 (.t 1)),o1 34 (.ld 1 false (.t 33)),o1 35 (.ms 4 1 1 [.b false] (.t 34) (.t 34)),o1 36 (.bs 55 1 1 [.sl0] [(0,1,(.t 35))]),o1 37 (.app 55 1 24 (.t 32) (.t 36)),
  (mt 7 37)]
abbrev LI:AC:=
 (.reg Lz)
abbrev Ly:List AO:=
 [(mt 30 8),o1 31 (.bin .add (.t 30) (ci 1)),
  (mt 8 31)]
abbrev LJ:AC:=
 (.seq (.seq (.reg LA) (.cond (.t 29) .skip (.exit 0))) (.seq (.block 1 LI) (.reg Ly)))
abbrev Ed:AC:=
 (.loop LJ)
abbrev D5:List AO:=
 [o1 9 (.mv (.c (.b true)))]
abbrev D4:List AO:=
 [(mt 38 9)]
abbrev D3:List AO:=
 [o1 9 (.mv (.c (.b false)))]
abbrev D2:List AO:=
 [(mt 39 6),o1 40 (.bin .sub (.t 39) (ci 1)),
  (mt 10 40)]
abbrev D1:List AO:=
 [(mt 41 10),o1 42 (.bin .geq (.t 41) (ci 0))]
abbrev DZ:List AO:=
 [o1 46 (.fa 3 (.t 1)),o1 47 (.ld 1 false (.t 46)),
  (mt 48 10),o1 49 (.ia 5 (.t 47) (.t 48)),o1 50 (.ld 5 true (.t 49)),
  (o2 51 57 [.t 50]),
  (mt 45 51),o1 52 (.ext 0 (.t 45)),o1 53 (.ext 1 (.t 45)),
  (mt 11 52),
  (mt 12 53)]
abbrev DY:List AO:=
 [o1 54 (.fa 3 (.t 1)),o1 55 (.ld 1 false (.t 54)),
  (mt 56 3),
  (mt 57 10),
  (o2 58 59 [.t 55,.t 56,.t 57]),
  (mt 13 58)]
abbrev DX:List AO:=
 [o1 14 (.mv (ci 0))]
abbrev DW:List AO:=
 [(mt 59 14),o1 60 (.fa 1 (.t 1)),o1 61 (.ld 1 false (.t 60)),o1 62 (.bin .lss (.t 59) (.t 61))]
abbrev DV:List AO:=
 [(mt 65 11),
  (mt 66 14),
  (o2 67 73 [.t 65,.t 66]),
  (mt 15 67)]
abbrev DU:List AO:=
 [o1 16 (.mv (ci 0))]
abbrev DT:List AO:=
 [(mt 68 16),
  (mt 69 13),o1 70 (.len (.t 69)),o1 71 (.bin .lss (.t 68) (.t 70))]
abbrev DS:List AO:=
 [(mt 74 15),
  (mt 75 74),
  (o4 76 75 (.mv (.t 7))),
  (o4 77 75 (.mv (.t 13))),
  (o4 78 75 (.mv (.t 16))),
  (o4 79 75 (.ia 1 (.t 77) (.t 78))),
  (o4 80 75 (.ld 1 false (.t 79))),
  (o4 81 75 (.ia 1 (.t 76) (.t 80))),
  (o4 82 75 (.ld 1 false (.t 81))),
  (o4 83 75 (.mv (.t 14))),
  (o4 84 75 (.ia 1 (.t 82) (.t 83))),
  (o4 85 75 (.ld 1 false (.t 84))),
  (o4 86 75 (.mv (.t 85))),
  (o5 87 86 (.mv (.t 14))),
  (o5 88 86 (.mv (.t 12))),
  (o5 89 86 (.bin .neq (.t 87) (.t 88))),
  (o4 90 75 (.pick (.t 86) (.t 89) (.c (.b false)))),o1 91 (.pick (.t 75) (.c (.b true)) (.t 90)),
  (mt 15 91)]
abbrev Ec:AC:=
 (.reg DS)
abbrev DQ:List AO:=
 [(mt 72 16),o1 73 (.bin .add (.t 72) (ci 1)),
  (mt 16 73)]
abbrev Eh:AC:=
 (.seq (.seq (.reg DT) (.cond (.t 71) .skip (.exit 8))) (.seq (.block 9 Ec) (.reg DQ)))
abbrev Eb:AC:=
 (.loop Eh)
abbrev DP:List AO:=
 [(mt 92 15),
  (mt 93 92),
  (o5 94 93 (.mv (.t 7))),
  (o5 95 93 (.mv (.t 10))),
  (o5 96 93 (.ia 1 (.t 94) (.t 95))),
  (o5 97 93 (.ld 1 false (.t 96))),
  (o5 98 93 (.mv (.t 14))),
  (o5 99 93 (.ia 1 (.t 97) (.t 98))),
  (o5 100 93 (.ld 1 false (.t 99))),
  (o5 101 93 (.un .not (.t 100))),o1 102 (.pick (.t 93) (.t 101) (.c (.b false)))]
abbrev DN:List AO:=
 [(mt 103 7),
  (mt 104 10),o1 105 (.ia 1 (.t 103) (.t 104)),o1 106 (.ld 1 false (.t 105)),
  (mt 107 14),o1 108 (.ia 1 (.t 106) (.t 107)),
  (o3 (.st 1 (.t 108) (.c (.b true))))]
abbrev DM:List AO:=
 [o1 9 (.mv (.c (.b true)))]
abbrev wX:AC:=
 (.seq (.reg DV) (.seq (.seq (.reg DU) (.block 8 Eb)) (.seq (.reg DP) (.cond (.t 102) (.seq (.reg DN) (.reg DM)) .skip))))
abbrev DL:List AO:=
 [(mt 63 14),o1 64 (.bin .add (.t 63) (ci 1)),
  (mt 14 64)]
abbrev Eg:AC:=
 (.seq (.seq (.reg DW) (.cond (.t 62) .skip (.exit 6))) (.seq (.block 7 wX) (.reg DL)))
abbrev Ea:AC:=
 (.loop Eg)
abbrev D9:AC:=
 (.seq (.reg DZ) (.seq (.reg DY) (.seq (.reg DX) (.block 6 Ea))))
abbrev DK:List AO:=
 [(mt 43 10),o1 44 (.bin .sub (.t 43) (ci 1)),
  (mt 10 44)]
abbrev Ef:AC:=
 (.seq (.seq (.reg D1) (.cond (.t 42) .skip (.exit 4))) (.seq (.block 5 D9) (.reg DK)))
abbrev D8:AC:=
 (.loop Ef)
abbrev D7:AC:=
 (.seq (.reg D3) (.seq (.reg D2) (.block 4 D8)))
abbrev Ee:AC:=
 (.seq (.seq (.reg D4) (.cond (.t 38) .skip (.exit 2))) (.block 3 D7))
abbrev D6:AC:=
 (.loop Ee)
abbrev DJ:List AO:=
 [(mt 109 7),
  (mt 2 109)]
abbrev Rj:AF:=⟨110,(.seq (.reg LG) (.seq (.reg LF) (.seq (.reg LD) (.seq (.reg LC) (.seq (.seq (.reg LB) (.block 0 Ed)) (.seq (.reg D5) (.seq (.block 2 D6) (.seq (.reg DJ) .ret)))))))),[.mv (.t 2)]⟩
theorem LH:bK Try.prog (aE Try.prog 40) 40=some Rj:=by kernel_rfl
/-! compactorref25.members-/
abbrev Lr:List AO:=
 [o1 2 (.mv (.c .sl0))]
abbrev Lq:List AO:=
 [o1 3 (.mv (.c .sl0))]
abbrev Lp:List AO:=
 [o1 4 (.mv (ci 0))]
abbrev Lo:List AO:=
 [(mt 5 4),
  (mt 6 0),o1 7 (.len (.t 6)),o1 8 (.bin .lss (.t 5) (.t 7))]
abbrev Ln:List AO:=
 [(mt 11 0),
  (mt 12 4),o1 13 (.ia 1 (.t 11) (.t 12)),o1 14 (.ld 1 false (.t 13))]
abbrev Lm:List AO:=
 [(mt 15 3),
  (mt 16 4),o1 17 (.bs 3 1 1 [.n .i64 0] [(0,1,(.t 16))]),o1 18 (.app 3 1 8 (.t 15) (.t 17)),
  (mt 3 18)]
abbrev Lw:AC:=
 (.seq (.reg Ln) (.cond (.t 14) (.reg Lm) .skip))
abbrev Ll:List AO:=
 [(mt 9 4),o1 10 (.bin .add (.t 9) (ci 1)),
  (mt 4 10)]
abbrev Lx:AC:=
 (.seq (.seq (.reg Lo) (.cond (.t 8) .skip (.exit 0))) (.seq (.block 1 Lw) (.reg Ll)))
abbrev Lu:AC:=
 (.loop Lx)
abbrev DI:List AO:=
 [(mt 19 3),
  (mt 2 19)]
abbrev Ri:AF:=⟨20,(.seq (.reg Lr) (.seq (.reg Lq) (.seq (.seq (.reg Lp) (.block 0 Lu)) (.seq (.reg DI) .ret)))),[.mv (.t 2)]⟩
theorem Ls:bK Try.prog (aE Try.prog 41) 41=some Ri:=by kernel_rfl
/-! compactorref25.Colors-/
/-! compactorref25.replace-/
/-! compactorref25.renamed-/
/-! compactorref25.occurring-/
/-! compactorref25.Successors-/
abbrev Lj:List AO:=
 [o1 6 (.mv (.c .sl0))]
abbrev Li:List AO:=
 [(mt 8 1),
  (mt 9 2),o1 10 (.ia 1 (.t 8) (.t 9)),o1 11 (.ld 1 false (.t 10)),
  (mt 7 11)]
abbrev Lh:List AO:=
 [(mt 12 0),
  (mt 13 2),o1 14 (.ia 5 (.t 12) (.t 13)),o1 15 (.fa 0 (.t 14)),o1 16 (.ld 1 false (.t 15))]
abbrev Lg:List AO:=
 [o1 18 (.bin .eql (.t 16) (ci 27)),
  (mt 17 18)]
abbrev Lf:List AO:=
 [o1 19 (.bin .eql (.t 16) (ci 29)),
  (mt 17 19)]
abbrev Ld:List AO:=
 [o1 20 (.bin .eql (.t 16) (ci 30)),
  (mt 17 20)]
abbrev Lc:List AO:=
 [(mt 21 2),o1 22 (.bin .add (.t 21) (ci 1)),
  (mt 23 7),o1 24 (.bin .add (.t 23) (ci 1)),o1 25 (.bs 3 1 2 [.n .i64 0,.n .i64 0] [(0,1,(.t 22)),(1,1,(.t 24))]),
  (mt 6 25)]
abbrev Lb:List AO:=
 [o1 27 (.bin .eql (.t 16) (ci 28)),
  (mt 26 27)]
abbrev La:List AO:=
 [(mt 28 7),o1 29 (.bin .add (.t 28) (ci 1)),o1 30 (.bs 3 1 1 [.n .i64 0] [(0,1,(.t 29))]),
  (mt 6 30)]
abbrev K9:List AO:=
 [o1 32 (.bin .eql (.t 16) (ci 31)),
  (mt 31 32)]
abbrev DG:List AO:=
 [(mt 33 0),
  (mt 34 7),o1 35 (.ia 5 (.t 33) (.t 34)),o1 36 (.fa 0 (.t 35)),o1 37 (.ld 1 false (.t 36)),o1 38 (.bin .eql (.t 37) (ci 29))]
abbrev DF:List AO:=
 [(mt 39 7),o1 40 (.bin .add (.t 39) (ci 1)),
  (mt 41 2),o1 42 (.bin .add (.t 41) (ci 1)),o1 43 (.bs 3 1 2 [.n .i64 0,.n .i64 0] [(0,1,(.t 40)),(1,1,(.t 42))]),
  (mt 6 43)]
abbrev DH:AC:=
 (.seq (.seq (.reg Lg) (.cond (.t 17) .skip (.seq (.reg Lf) (.cond (.t 17) .skip (.reg Ld))))) (.cond (.t 17) (.seq (.reg Lc) .ret) (.seq (.reg Lb) (.cond (.t 26) (.seq (.reg La) .ret) (.seq (.reg K9) (.cond (.t 31) (.seq (.reg DG) (.cond (.t 38) (.seq (.reg DF) .ret) .skip)) .skip))))))
abbrev DE:List AO:=
 [(mt 44 2),o1 45 (.bin .add (.t 44) (ci 1)),o1 46 (.bs 3 1 1 [.n .i64 0] [(0,1,(.t 45))]),
  (mt 6 46)]
abbrev Rh:AF:=⟨47,(.seq (.reg Lj) (.seq (.reg Li) (.seq (.seq (.reg Lh) (.block 0 DH)) (.seq (.reg DE) .ret)))),[.mv (.t 6)]⟩
theorem Lk:bK Try.prog (aE Try.prog 59) 59=some Rh:=by kernel_rfl
/-! compactorref25.has-/
abbrev K4:List AO:=
 [o1 4 (.mv (.c (.b false)))]
abbrev K3:List AO:=
 [o1 5 (.mv (ci 0))]
abbrev K2:List AO:=
 [(mt 6 5),
  (mt 7 0),o1 8 (.len (.t 7)),o1 9 (.bin .lss (.t 6) (.t 8))]
abbrev K1:List AO:=
 [(mt 12 0),
  (mt 13 5),o1 14 (.ia 1 (.t 12) (.t 13)),o1 15 (.ld 1 false (.t 14)),
  (mt 16 1),o1 17 (.bin .eql (.t 15) (.t 16))]
abbrev KZ:List AO:=
 [o1 4 (.mv (.c (.b true)))]
abbrev K7:AC:=
 (.seq (.reg K1) (.cond (.t 17) (.seq (.reg KZ) .ret) .skip))
abbrev KY:List AO:=
 [(mt 10 5),o1 11 (.bin .add (.t 10) (ci 1)),
  (mt 5 11)]
abbrev K8:AC:=
 (.seq (.seq (.reg K2) (.cond (.t 9) .skip (.exit 0))) (.seq (.block 1 K7) (.reg KY)))
abbrev K6:AC:=
 (.loop K8)
abbrev KX:List AO:=
 [o1 4 (.mv (.c (.b false)))]
abbrev Rg:AF:=⟨18,(.seq (.reg K4) (.seq (.seq (.reg K3) (.block 0 K6)) (.seq (.reg KX) .ret))),[.mv (.t 4)]⟩
theorem K5:bK Try.prog (aE Try.prog 73) 73=some Rg:=by kernel_rfl
/-! compactorref25.interfering-/
/-! compactorref25.rename-/
/-! compactorlaw25.push-/
abbrev KV:List AO:=
 [o1 2 (.al 60 [.n .i64 0,.n .i64 0,.n .i64 0,.n .i64 0,.n .u32 0])]
abbrev KU:List AO:=
 [(mt 3 0),
  (mt 4 0),o1 5 (.bin .add (.t 4) (ci 5)),o1 6 (.cvi .u32 (.t 5)),o1 7 (.bd [.n .i64 0,.n .i64 0,.n .i64 0,.n .i64 0,.n .u32 0] [(0,1,(ci 0)),(1,1,(.t 3)),(2,1,(.c (.n .i64 (-1)))),(3,1,(.c (.n .i64 (-1)))),(4,1,(.t 6))]),
  (o3 (.st 5 (.t 2) (.t 7)))]
abbrev Rf:AF:=⟨8,(.seq (.reg KV) (.seq (.reg KU) .ret)),[.ld 5 true (.t 2)]⟩
theorem KW:bK Try.prog (aE Try.prog 34) 34=some Rf:=by kernel_rfl
/-! compactorlaw25.emit-/
abbrev KR:List AO:=
 [o1 2 (.al 60 [.n .i64 0,.n .i64 0,.n .i64 0,.n .i64 0,.n .u32 0])]
abbrev KQ:List AO:=
 [(mt 3 0),o1 4 (.bd [.n .i64 0,.n .i64 0,.n .i64 0,.n .i64 0,.n .u32 0] [(0,1,(ci 34)),(1,1,(.c (.n .i64 (-1)))),(2,1,(.t 3)),(3,1,(.c (.n .i64 (-1))))]),
  (o3 (.st 5 (.t 2) (.t 4)))]
abbrev Re:AF:=⟨5,(.seq (.reg KR) (.seq (.reg KQ) .ret)),[.ld 5 true (.t 2)]⟩
theorem KS:bK Try.prog (aE Try.prog 35) 35=some Re:=by kernel_rfl
/-! compactorlaw25.awake-/
abbrev KO:List AO:=
 [o1 0 (.mv (.c (.b false)))]
abbrev KN:List AO:=
 [(o2 13 34 [(ci 0)]),
  (o2 14 34 [(ci 1)]),o1 15 (.bd [.n .i64 0,.n .i64 0,.n .i64 0,.n .i64 0,.n .u32 0] [(0,1,(ci 8)),(1,1,(ci 2)),(2,1,(ci 0)),(3,1,(ci 1))]),
  (o2 16 35 [(ci 2)]),o1 17 (.bs 60 5 4 [.n .i64 0,.n .i64 0,.n .i64 0,.n .i64 0,.n .u32 0,.n .i64 0,.n .i64 0,.n .i64 0,.n .i64 0,.n .u32 0,.n .i64 0,.n .i64 0,.n .i64 0,.n .i64 0,.n .u32 0,.n .i64 0,.n .i64 0,.n .i64 0,.n .i64 0,.n .u32 0] [(0,5,(.t 13)),(5,5,(.t 14)),(10,5,(.t 15)),(15,5,(.t 16))]),o1 18 (.bd [.sl0,.n .i64 0,.n .i64 0,.sl0] [(1,1,(ci 3)),(3,1,(.t 17))]),o1 1 (.al 25 [.sl0,.n .i64 0,.n .i64 0,.sl0]),
  (o3 (.st 4 (.t 1) (.t 18)))]
abbrev KM:List AO:=
 [o1 20 (.ld 4 true (.t 1)),
  (o2 21 11 [.t 20]),
  (mt 19 21),o1 22 (.ext 0 (.t 19)),o1 23 (.ext 1 (.t 19)),
  (mt 2 22),
  (mt 3 23)]
abbrev KL:List AO:=
 [o1 25 (.ld 4 true (.t 1)),
  (o2 26 13 [.t 25]),
  (mt 24 26),o1 27 (.ext 0 (.t 24)),o1 28 (.ext 1 (.t 24)),
  (mt 4 27),
  (mt 5 28)]
abbrev KK:List AO:=
 [o1 30 (.ld 4 true (.t 1)),
  (o2 31 17 [.t 30,(ci 4)]),
  (mt 29 31),o1 32 (.ext 0 (.t 29)),o1 33 (.ext 1 (.t 29)),o1 6 (.al 25 [.sl0,.n .i64 0,.n .i64 0,.sl0]),
  (o3 (.st 4 (.t 6) (.t 32))),
  (mt 7 33)]
abbrev KJ:List AO:=
 [(mt 34 3),
  (mt 35 5),o1 36 (.bin .add (.t 34) (.t 35)),
  (mt 37 7),o1 38 (.bin .add (.t 36) (.t 37)),o1 39 (.bin .neq (.t 38) (ci 0)),
  (mt 40 39),
  (o4 41 40 (.mv (.t 2))),
  (o4 42 40 (.bs 3 1 1 [.n .i64 0] [(0,1,(ci 0))])),
  (o4 43 40 (.bs 3 1 2 [.n .i64 0,.n .i64 0] [(0,1,(ci 0)),(1,1,(ci 1))])),
  (o4 44 40 (.bs 3 1 1 [.n .i64 0] [(0,1,(ci 2))])),
  (o4 45 40 (.bs 39 1 5 [.sl0,.sl0,.sl0,.sl0,.sl0] [(0,1,(.c .sl0)),(1,1,(.t 42)),(2,1,(.t 43)),(3,1,(.t 44)),(4,1,(.c .sl0))])),⟨some 46,some (40,false),.cl (.c (.f 15 [] [])) [.t 41,.t 45,(.c (.f 16 [] []))]⟩,
  (o4 47 40 (.un .not (.t 46))),o1 48 (.pick (.t 40) (.c (.b true)) (.t 47)),
  (mt 49 48),
  (o4 50 49 (.mv (.t 4))),
  (o4 51 49 (.bin .neq (.t 50) (ci 2))),o1 52 (.pick (.t 49) (.c (.b true)) (.t 51)),
  (mt 53 52),
  (o4 54 53 (.fa 1 (.t 6))),
  (o4 55 53 (.ld 1 false (.t 54))),
  (o4 56 53 (.bin .neq (.t 55) (ci 2))),o1 57 (.pick (.t 53) (.c (.b true)) (.t 56)),
  (mt 58 57),
  (o4 59 58 (.fa 3 (.t 6))),
  (o4 60 58 (.ld 1 false (.t 59))),
  (o4 61 58 (.len (.t 60))),
  (o4 62 58 (.bin .neq (.t 61) (ci 4))),o1 63 (.pick (.t 58) (.c (.b true)) (.t 62)),
  (mt 64 63),
  (o4 65 64 (.fa 3 (.t 6))),
  (o4 66 64 (.ld 1 false (.t 65))),
  (o4 67 64 (.ia 5 (.t 66) (ci 2))),
  (o4 68 64 (.fa 1 (.t 67))),
  (o4 69 64 (.ld 1 false (.t 68))),
  (o4 70 64 (.bin .neq (.t 69) (ci 0))),o1 71 (.pick (.t 64) (.c (.b true)) (.t 70))]
abbrev KI:List AO:=
 [o1 0 (.mv (.c (.b false)))]
abbrev CX:List AO:=
 [o1 72 (.bd [.sl0,.n .i64 0,.n .i64 0,.sl0] [(1,1,(ci 5))]),o1 8 (.al 25 [.sl0,.n .i64 0,.n .i64 0,.sl0]),
  (o3 (.st 4 (.t 8) (.t 72)))]
abbrev CW:List AO:=
 [o1 73 (.mv (ci 0))]
abbrev KH:List AO:=
 [o1 74 (.bin .lss (.t 73) (ci 5))]
abbrev Dx:List AO:=
 [(mt 75 73),
  (mt 9 75)]
abbrev Dz:List (Nat×AO):=
 [(2,(o1 76 (.fa 3 (.t 8)))),
  (2,(mt 78 9)),(1,(o1 77 (.ld 1 false (.t 76)))),
  (0,(o2 79 34 [.t 78])),(0,(o1 80 (.bs 60 5 1 [.n .i64 0,.n .i64 0,.n .i64 0,.n .i64 0,.n .u32 0] [(0,5,(.t 79))]))),(3,(o1 81 (.app 60 5 40 (.t 77) (.t 80)))),(2,(o1 82 (.fa 3 (.t 8)))),
  (3,(o3 (.st 1 (.t 82) (.t 81))))]
abbrev DB:AC:=
 (.seq (.reg Dx) (.mix Dz))
abbrev Dw:List AO:=
 [o1 83 (.bin .add (.t 73) (ci 1)),
  (mt 73 83)]
abbrev DD:AC:=
 (.seq (.reg KH) (.seq (.cond (.t 74) .skip (.exit 0)) (.seq (.block 1 DB) (.reg Dw))))
abbrev wW:AC:=
 (.loop DD)
abbrev wT:List AO:=
 [o1 84 (.mv (ci 0))]
abbrev Dv:List AO:=
 [o1 85 (.bin .lss (.t 84) (ci 5))]
abbrev Du:List AO:=
 [(mt 86 84),
  (mt 10 86)]
abbrev Dy:List (Nat×AO):=
 [(2,(o1 87 (.fa 3 (.t 8)))),
  (2,(mt 89 10)),(1,(o1 88 (.ld 1 false (.t 87)))),
  (0,(o2 90 35 [.t 89])),(0,(o1 91 (.bs 60 5 1 [.n .i64 0,.n .i64 0,.n .i64 0,.n .i64 0,.n .u32 0] [(0,5,(.t 90))]))),(3,(o1 92 (.app 60 5 40 (.t 88) (.t 91)))),(2,(o1 93 (.fa 3 (.t 8)))),
  (3,(o3 (.st 1 (.t 93) (.t 92))))]
abbrev DA:AC:=
 (.seq (.reg Du) (.mix Dy))
abbrev Dt:List AO:=
 [o1 94 (.bin .add (.t 84) (ci 1)),
  (mt 84 94)]
abbrev DC:AC:=
 (.seq (.reg Dv) (.seq (.cond (.t 85) .skip (.exit 2)) (.seq (.block 3 DA) (.reg Dt))))
abbrev wV:AC:=
 (.loop DC)
abbrev wS:List AO:=
 [o1 96 (.ld 4 true (.t 8)),
  (o2 97 17 [.t 96,(ci 4)]),
  (mt 95 97),o1 98 (.ext 0 (.t 95)),o1 99 (.ext 1 (.t 95)),o1 11 (.al 25 [.sl0,.n .i64 0,.n .i64 0,.sl0]),
  (o3 (.st 4 (.t 11) (.t 98))),
  (mt 12 99)]
abbrev wU:List (Nat×AO):=
 [(2,(mt 100 12)),(2,(o1 101 (.bin .eql (.t 100) (ci 0)))),
  (2,(mt 102 101)),
  (2,(o5 103 102 (.fa 1 (.t 11)))),
  (1,(o5 104 102 (.ld 1 false (.t 103)))),
  (2,(o5 105 102 (.bin .eql (.t 104) (ci 4)))),(2,(o1 106 (.pick (.t 102) (.t 105) (.c (.b false))))),
  (2,(mt 107 106)),
  (2,(o5 108 107 (.fa 2 (.t 11)))),
  (1,(o5 109 107 (.ld 1 false (.t 108)))),
  (2,(o5 110 107 (.bin .eql (.t 109) (ci 4)))),(2,(o1 111 (.pick (.t 107) (.t 110) (.c (.b false))))),
  (2,(mt 112 111)),
  (2,(o5 113 112 (.fa 3 (.t 11)))),
  (1,(o5 114 112 (.ld 1 false (.t 113)))),
  (2,(o5 115 112 (.len (.t 114)))),
  (2,(o5 116 112 (.bin .eql (.t 115) (ci 18)))),(2,(o1 117 (.pick (.t 112) (.t 116) (.c (.b false))))),
  (2,(mt 118 117)),
  (2,(o5 119 118 (.fa 3 (.t 11)))),
  (1,(o5 120 118 (.ld 1 false (.t 119)))),
  (2,(o5 121 118 (.ia 5 (.t 120) (ci 0)))),
  (1,(o5 122 118 (.ld 5 true (.t 121)))),(0,⟨some 123,some (118,true),.cl (.c (.f 34 [] [])) [(ci 0)]⟩),
  (2,(o5 124 118 (.eq false (.st [(0,1,.n),(1,1,.n),(2,1,.n),(3,1,.n),(4,1,.n)]) (.t 122) (.t 123)))),(2,(o1 125 (.pick (.t 118) (.t 124) (.c (.b false))))),
  (2,(mt 0 125))]
abbrev Rd:AF:=⟨126,(.seq (.reg KO) (.seq (.reg KN) (.seq (.reg KM) (.seq (.reg KL) (.seq (.reg KK) (.seq (.seq (.reg KJ) (.cond (.t 71) (.seq (.reg KI) .ret) .skip)) (.seq (.reg CX) (.seq (.seq (.reg CW) (.block 0 wW)) (.seq (.seq (.reg wT) (.block 2 wV)) (.seq (.reg wS) (.seq (.mix wU) .ret))))))))))),[.mv (.t 0)]⟩
theorem KP:bK Try.prog (aE Try.prog 10) 10=some Rd:=by kernel_rfl
/-! compactorlaw25.good-/
abbrev KF:List AO:=
 [o1 1 (.bx 25 0 (.t 0)),o1 2 (.mv (.c (.b false)))]
abbrev KE:List AO:=
 [o1 6 (.ld 4 true (.t 1)),
  (o2 7 39 [.t 6]),
  (mt 5 7),o1 8 (.ext 0 (.t 5)),o1 9 (.ext 1 (.t 5)),
  (mt 3 8),
  (mt 4 9)]
abbrev KD:List AO:=
 [o1 10 (.ld 4 true (.t 1)),
  (o2 11 9 [.t 10]),
  (mt 12 11),
  (o5 13 12 (.fa 2 (.t 1))),
  (o5 14 12 (.ld 1 false (.t 13))),
  (o5 15 12 (.bin .leq (.t 14) (ci 900))),o1 16 (.pick (.t 12) (.t 15) (.c (.b false))),
  (mt 17 16),
  (o5 18 17 (.mv (.t 4))),
  (o5 19 17 (.bin .eql (.t 18) (ci 0))),o1 20 (.pick (.t 17) (.t 19) (.c (.b false))),
  (mt 2 20)]
abbrev Rc:AF:=⟨21,(.seq (.reg KF) (.seq (.reg KE) (.seq (.reg KD) .ret))),[.mv (.t 2)]⟩
theorem KG:bK Try.prog (aE Try.prog 22) 22=some Rc:=by kernel_rfl
/-! compactorlaw25.reached-/
/-! compactorlaw25.reached$1-/
/-! compactorlaw25.AllocateFits$1-/
abbrev KB:List AO:=
 [o1 2 (.bx 60 0 (.t 0)),o1 3 (.mv (.c (.b false)))]
abbrev KA:List AO:=
 [o1 4 (.fa 0 (.t 2)),o1 5 (.ld 1 false (.t 4)),o1 6 (.bin .eql (.t 5) (ci 37)),
  (mt 7 6),
  (o4 8 7 (.fa 0 (.t 2))),
  (o4 9 7 (.ld 1 false (.t 8))),
  (o4 10 7 (.bin .eql (.t 9) (ci 38))),o1 11 (.pick (.t 7) (.c (.b true)) (.t 10)),
  (mt 12 11),
  (o5 13 12 (.fa 4 (.t 2))),
  (o5 14 12 (.ld 1 false (.t 13))),
  (o5 15 12 (.cvi .i64 (.t 14))),
  (o5 16 12 (.fa 2 (.t 1))),
  (o5 17 12 (.ld 1 false (.t 16))),
  (o5 18 12 (.bin .geq (.t 15) (.t 17))),o1 19 (.pick (.t 12) (.t 18) (.c (.b false))),
  (mt 3 19)]
abbrev Rb:AF:=⟨20,(.seq (.reg KB) (.seq (.reg KA) .ret)),[.mv (.t 3)]⟩
theorem KC:bK Try.prog (aE Try.prog 30) 30=some Rb:=by kernel_rfl
/-! compactorlaw25.AllocateFits$2-/
abbrev Ky:List AO:=
 [o1 2 (.bx 60 0 (.t 0)),o1 3 (.bx 60 0 (.t 1)),o1 4 (.mv (.c (.b false)))]
abbrev Kx:List AO:=
 [o1 5 (.fa 0 (.t 2)),o1 6 (.ld 1 false (.t 5)),o1 7 (.fa 0 (.t 3)),o1 8 (.ld 1 false (.t 7)),o1 9 (.bin .eql (.t 6) (.t 8)),
  (mt 10 9),
  (o5 11 10 (.fa 4 (.t 2))),
  (o5 12 10 (.ld 1 false (.t 11))),
  (o5 13 10 (.fa 4 (.t 3))),
  (o5 14 10 (.ld 1 false (.t 13))),
  (o5 15 10 (.bin .eql (.t 12) (.t 14))),o1 16 (.pick (.t 10) (.t 15) (.c (.b false))),
  (mt 4 16)]
abbrev QY:AF:=⟨17,(.seq (.reg Ky) (.seq (.reg Kx) .ret)),[.mv (.t 4)]⟩
theorem Kz:bK Try.prog (aE Try.prog 31) 31=some QY:=by kernel_rfl
/-! optimizer.Prune-/
/-! optimizer.prune-/
/-! optimizer.live-/
/-! optimizer.hollow-/
/-! slices.Clone[[]bool,bool]-/
/-! optimizer.following-/
/-! slices.Equal[[]bool,bool]-/
/-! compactorref24.Prune-/
/-! compactorref24.live-/
/-! compactorref24.idle-/
/-! compactorref24.empty-/
/-! compactorref24.successors-/
/-! compactorlaw24.OptimizerPrunes-/
/-! optimizer.Share-/
/-! optimizer.share-/
/-! optimizer.walk[optimizer.value]-/
/-! optimizer.share$1-/
/-! optimizer.share$2-/
/-! optimizer.expression-/
/-! slices.IndexFunc[[]optimizer.value,optimizer.value]-/
/-! optimizer.share$2$1-/
/-! optimizer.value.computes-/
/-! optimizer.without[optimizer.value]-/
/-! optimizer.both[optimizer.value]-/
/-! optimizer.without[optimizer.value]$1-/
/-! slices.Contains[[]optimizer.value,optimizer.value]-/
/-! slices.Index[[]optimizer.value,optimizer.value]-/
/-! compactorref24.Share-/
/-! compactorref24.keep-/
/-! compactorref24.changes-/
/-! compactorref24.bothFacts-/
/-! compactorref24.expression-/
/-! compactorref24.find-/
/-! compactorlaw24.OptimizerShares-/
/-! optimizer.Optimize-/
/-! compactorref24.Optimize-/
/-! optimizer.Optimize$1-/
/-! slices.Equal[[]api.RegInstr,api.RegInstr]-/
/-! compactorlaw24.OptimizerOptimizes-/
/-! slices.EqualFunc[[][]int,[][]int,[]int,[]int]-/
abbrev Ku:List AO:=
 [o1 6 (.mv (.c (.b false)))]
abbrev Kt:List AO:=
 [(mt 10 0),o1 11 (.len (.t 10)),
  (mt 12 1),o1 13 (.len (.t 12)),o1 14 (.bin .neq (.t 11) (.t 13))]
abbrev Ks:List AO:=
 [o1 6 (.mv (.c (.b false)))]
abbrev Kr:List AO:=
 [(mt 15 0),o1 16 (.len (.t 15)),o1 17 (.mv (ci 0))]
abbrev Kq:List AO:=
 [o1 18 (.bin .lss (.t 17) (.t 16))]
abbrev Ko:List AO:=
 [(mt 19 17),o1 20 (.ia 1 (.t 15) (.t 17)),o1 21 (.ld 1 false (.t 20)),
  (mt 7 19),
  (mt 8 21)]
abbrev Kn:List AO:=
 [(mt 22 1),
  (mt 23 7),o1 24 (.ia 1 (.t 22) (.t 23)),o1 25 (.ld 1 false (.t 24)),
  (mt 9 25)]
abbrev Km:List AO:=
 [(mt 26 2),
  (mt 27 8),
  (mt 28 9),⟨some 29,none,.cl (.t 26) [.t 27,.t 28]⟩,o1 30 (.un .not (.t 29))]
abbrev Kl:List AO:=
 [o1 6 (.mv (.c (.b false)))]
abbrev Kw:AC:=
 (.seq (.reg Ko) (.seq (.reg Kn) (.seq (.reg Km) (.cond (.t 30) (.seq (.reg Kl) .ret) .skip))))
abbrev Dq:List AO:=
 [o1 31 (.bin .add (.t 17) (ci 1)),
  (mt 17 31)]
abbrev Ds:AC:=
 (.seq (.reg Kq) (.seq (.cond (.t 18) .skip (.exit 0)) (.seq (.block 1 Kw) (.reg Dq))))
abbrev Dr:AC:=
 (.loop Ds)
abbrev Dp:List AO:=
 [o1 6 (.mv (.c (.b true)))]
abbrev QX:AF:=⟨32,(.seq (.reg Ku) (.seq (.seq (.reg Kt) (.cond (.t 14) (.seq (.reg Ks) .ret) .skip)) (.seq (.seq (.reg Kr) (.block 0 Dr)) (.seq (.reg Dp) .ret)))),[.mv (.t 6)]⟩
theorem Kv:bK Try.prog (aE Try.prog 15) 15=some QX:=by kernel_rfl
/-! slices.Equal[[]int,int]-/
abbrev Kh:List AO:=
 [o1 4 (.mv (.c (.b false)))]
abbrev Kg:List AO:=
 [(mt 6 0),o1 7 (.len (.t 6)),
  (mt 8 1),o1 9 (.len (.t 8)),o1 10 (.bin .neq (.t 7) (.t 9))]
abbrev Kf:List AO:=
 [o1 4 (.mv (.c (.b false)))]
abbrev Ke:List AO:=
 [(mt 11 0),o1 12 (.len (.t 11)),o1 13 (.mv (ci 0))]
abbrev Kd:List AO:=
 [o1 14 (.bin .lss (.t 13) (.t 12))]
abbrev Kc:List AO:=
 [(mt 15 13),
  (mt 5 15)]
abbrev Kj:List (Nat×AO):=
 [(2,(mt 16 0)),
  (2,(mt 17 5)),(2,(o1 18 (.ia 1 (.t 16) (.t 17)))),
  (2,(mt 20 1)),
  (2,(mt 21 5)),(2,(o1 22 (.ia 1 (.t 20) (.t 21)))),(1,(o1 19 (.ld 1 false (.t 18)))),(1,(o1 23 (.ld 1 false (.t 22)))),(2,(o1 24 (.bin .neq (.t 19) (.t 23))))]
abbrev Ka:List AO:=
 [o1 4 (.mv (.c (.b false)))]
abbrev Kk:AC:=
 (.seq (.reg Kc) (.seq (.mix Kj) (.cond (.t 24) (.seq (.reg Ka) .ret) .skip)))
abbrev J9:List AO:=
 [o1 25 (.bin .add (.t 13) (ci 1)),
  (mt 13 25)]
abbrev Dn:AC:=
 (.seq (.reg Kd) (.seq (.cond (.t 14) .skip (.exit 0)) (.seq (.block 1 Kk) (.reg J9))))
abbrev Dm:AC:=
 (.loop Dn)
abbrev Dl:List AO:=
 [o1 4 (.mv (.c (.b true)))]
abbrev QW:AF:=⟨26,(.seq (.reg Kh) (.seq (.seq (.reg Kg) (.cond (.t 10) (.seq (.reg Kf) .ret) .skip)) (.seq (.seq (.reg Ke) (.block 0 Dm)) (.seq (.reg Dl) .ret)))),[.mv (.t 4)]⟩
theorem Ki:bK Try.prog (aE Try.prog 16) 16=some QW:=by kernel_rfl
/-! slices.IsSorted[[]int,int]-/
/-! slices.Contains[[]int,int]-/
/-! slices.EqualFunc[[]api.RegInstr,[]api.RegInstr,api.RegInstr,api.RegInstr]-/
abbrev J6:List AO:=
 [o1 6 (.mv (.c (.b false)))]
abbrev J5:List AO:=
 [(mt 10 0),o1 11 (.len (.t 10)),
  (mt 12 1),o1 13 (.len (.t 12)),o1 14 (.bin .neq (.t 11) (.t 13))]
abbrev J4:List AO:=
 [o1 6 (.mv (.c (.b false)))]
abbrev J3:List AO:=
 [(mt 15 0),o1 16 (.len (.t 15)),o1 17 (.mv (ci 0))]
abbrev J2:List AO:=
 [o1 18 (.bin .lss (.t 17) (.t 16))]
abbrev J1:List AO:=
 [(mt 19 17),o1 20 (.ia 5 (.t 15) (.t 17)),o1 21 (.ld 5 true (.t 20)),o1 8 (.al 60 [.n .i64 0,.n .i64 0,.n .i64 0,.n .i64 0,.n .u32 0]),
  (mt 7 19),
  (o3 (.st 5 (.t 8) (.t 21)))]
abbrev J0:List AO:=
 [(mt 22 1),
  (mt 23 7),o1 24 (.ia 5 (.t 22) (.t 23)),o1 25 (.ld 5 true (.t 24)),o1 9 (.al 60 [.n .i64 0,.n .i64 0,.n .i64 0,.n .i64 0,.n .u32 0]),
  (o3 (.st 5 (.t 9) (.t 25)))]
abbrev JZ:List AO:=
 [(mt 26 2),o1 27 (.ld 5 true (.t 8)),o1 28 (.ld 5 true (.t 9)),⟨some 29,none,.cl (.t 26) [.t 27,.t 28]⟩,o1 30 (.un .not (.t 29))]
abbrev JY:List AO:=
 [o1 6 (.mv (.c (.b false)))]
abbrev J8:AC:=
 (.seq (.reg J1) (.seq (.reg J0) (.seq (.reg JZ) (.cond (.t 30) (.seq (.reg JY) .ret) .skip))))
abbrev Di:List AO:=
 [o1 31 (.bin .add (.t 17) (ci 1)),
  (mt 17 31)]
abbrev Dk:AC:=
 (.seq (.reg J2) (.seq (.cond (.t 18) .skip (.exit 0)) (.seq (.block 1 J8) (.reg Di))))
abbrev Dj:AC:=
 (.loop Dk)
abbrev Dh:List AO:=
 [o1 6 (.mv (.c (.b true)))]
abbrev QV:AF:=⟨32,(.seq (.reg J6) (.seq (.seq (.reg J5) (.cond (.t 14) (.seq (.reg J4) .ret) .skip)) (.seq (.seq (.reg J3) (.block 0 Dj)) (.seq (.reg Dh) .ret)))),[.mv (.t 6)]⟩
theorem J7:bK Try.prog (aE Try.prog 32) 32=some QV:=by kernel_rfl
/-! slices.Index[[]int,int]-/
/-! slices.ContainsFunc[[]int,int]-/
/-! slices.IndexFunc[[]int,int]-/
/-! cmp.Less[int]-/
/-! cmp.isNaN[int]-/
/-! compactorlaw25.AllocateLives-/
/-! compactorlaw25.AllocateSpills-/
/-! compactorlaw25.AllocateCompacts-/
/-! compactorlaw25.AllocateSettles-/
/-! compactorlaw25.AllocateNeeds-/
/-! compactorlaw25.AllocateFits-/
abbrev JX:List AO:=
 [o1 2 (.bx 25 0 (.t 0)),o1 4 (.mv (.c (.b false)))]
abbrev JW:List AO:=
 [o1 18 (.ld 4 true (.t 2)),
  (o2 19 22 [.t 18]),o1 20 (.un .not (.t 19))]
abbrev JV:List AO:=
 [(o2 21 10 []),
  (mt 4 21)]
abbrev JU:List AO:=
 [(mt 22 1),o1 23 (.cvi .i64 (.t 22)),o1 24 (.bin .rem (.t 23) (ci 60)),o1 25 (.bin .add (ci 4) (.t 24)),
  (mt 5 25)]
abbrev JT:List AO:=
 [o1 27 (.ld 4 true (.t 2)),
  (mt 28 5),
  (o2 29 17 [.t 27,.t 28]),
  (mt 26 29),o1 30 (.ext 0 (.t 26)),o1 31 (.ext 1 (.t 26)),o1 6 (.al 25 [.sl0,.n .i64 0,.n .i64 0,.sl0]),
  (o3 (.st 4 (.t 6) (.t 30))),
  (mt 7 31)]
abbrev JS:List AO:=
 [(mt 32 7),o1 33 (.bin .neq (.t 32) (ci 0))]
abbrev JR:List AO:=
 [o1 4 (.mv (.c (.b false)))]
abbrev JQ:List AO:=
 [o1 35 (.ld 4 true (.t 2)),
  (o2 36 20 [.t 35]),
  (mt 34 36),o1 37 (.ext 0 (.t 34)),o1 38 (.ext 1 (.t 34)),o1 8 (.al 25 [.sl0,.n .i64 0,.n .i64 0,.sl0]),
  (o3 (.st 4 (.t 8) (.t 37))),
  (mt 9 38)]
abbrev JP:List AO:=
 [o1 40 (.ld 4 true (.t 6)),
  (o2 41 27 [.t 40]),
  (mt 39 41),o1 42 (.ext 0 (.t 39)),o1 43 (.ext 1 (.t 39)),
  (mt 10 42),
  (mt 11 43)]
abbrev JO:List AO:=
 [o1 45 (.ld 4 true (.t 8)),
  (o2 46 27 [.t 45]),
  (mt 44 46),o1 47 (.ext 0 (.t 44)),o1 48 (.ext 1 (.t 44)),
  (mt 12 47),
  (mt 13 48)]
abbrev Dg:List AO:=
 [o1 50 (.ld 4 true (.t 2)),
  (o2 51 13 [.t 50]),
  (mt 49 51),o1 52 (.ext 0 (.t 49)),o1 53 (.ext 1 (.t 49)),
  (mt 14 52),
  (mt 15 53)]
abbrev Df:List AO:=
 [(mt 54 9),
  (mt 55 11),o1 56 (.bin .add (.t 54) (.t 55)),
  (mt 57 13),o1 58 (.bin .add (.t 56) (.t 57)),
  (mt 59 15),o1 60 (.bin .add (.t 58) (.t 59)),o1 61 (.bin .neq (.t 60) (ci 0)),
  (mt 62 61),
  (o4 63 62 (.fa 1 (.t 6))),
  (o4 64 62 (.ld 1 false (.t 63))),
  (o4 65 62 (.mv (.t 5))),
  (o4 66 62 (.bin .gtr (.t 64) (.t 65))),o1 67 (.pick (.t 62) (.c (.b true)) (.t 66)),
  (mt 68 67),
  (o4 69 68 (.fa 1 (.t 8))),
  (o4 70 68 (.ld 1 false (.t 69))),
  (o4 71 68 (.fa 1 (.t 2))),
  (o4 72 68 (.ld 1 false (.t 71))),
  (o4 73 68 (.bin .gtr (.t 70) (.t 72))),o1 74 (.pick (.t 68) (.c (.b true)) (.t 73)),
  (mt 75 74),
  (o4 76 75 (.fa 2 (.t 6))),
  (o4 77 75 (.ld 1 false (.t 76))),
  (o4 78 75 (.fa 2 (.t 2))),
  (o4 79 75 (.ld 1 false (.t 78))),
  (o4 80 75 (.bin .lss (.t 77) (.t 79))),o1 81 (.pick (.t 75) (.c (.b true)) (.t 80)),
  (mt 82 81),
  (o4 83 82 (.fa 2 (.t 8))),
  (o4 84 82 (.ld 1 false (.t 83))),
  (o4 85 82 (.fa 2 (.t 2))),
  (o4 86 82 (.ld 1 false (.t 85))),
  (o4 87 82 (.bin .neq (.t 84) (.t 86))),o1 88 (.pick (.t 82) (.c (.b true)) (.t 87)),
  (mt 89 88),
  (o4 90 89 (.mv (.t 5))),
  (o4 91 89 (.fa 1 (.t 2))),
  (o4 92 89 (.ld 1 false (.t 91))),
  (o4 93 89 (.bin .geq (.t 90) (.t 92))),
  (o4 94 89 (.mv (.t 93))),
  (o5 95 94 (.fa 2 (.t 6))),
  (o5 96 94 (.ld 1 false (.t 95))),
  (o5 97 94 (.fa 2 (.t 2))),
  (o5 98 94 (.ld 1 false (.t 97))),
  (o5 99 94 (.bin .neq (.t 96) (.t 98))),
  (o4 100 89 (.pick (.t 94) (.t 99) (.c (.b false)))),o1 101 (.pick (.t 89) (.c (.b true)) (.t 100))]
abbrev De:List AO:=
 [o1 4 (.mv (.c (.b false)))]
abbrev wR:List AO:=
 [o1 102 (.fa 2 (.t 6)),o1 103 (.ld 1 false (.t 102)),o1 104 (.fa 2 (.t 2)),o1 105 (.ld 1 false (.t 104)),o1 106 (.bin .eql (.t 103) (.t 105)),
  (mt 107 106),
  (o5 108 107 (.fa 1 (.t 6))),
  (o5 109 107 (.ld 1 false (.t 108))),
  (o5 110 107 (.mv (.t 14))),
  (o5 111 107 (.bin .lss (.t 109) (.t 110))),o1 112 (.pick (.t 107) (.t 111) (.c (.b false)))]
abbrev wQ:List AO:=
 [o1 4 (.mv (.c (.b false)))]
abbrev oG:List AO:=
 [o1 113 (.fa 3 (.t 6)),o1 114 (.ld 1 false (.t 113)),
  (o2 115 29 [.t 114]),o1 116 (.mf 30 [] [.t 2]),
  (o2 117 28 [.t 115,.t 116]),
  (mt 16 117)]
abbrev oE:List AO:=
 [o1 17 (.mv (.c (.f 31 [] [])))]
abbrev oD:List AO:=
 [(mt 118 16),o1 119 (.fa 3 (.t 2)),o1 120 (.ld 1 false (.t 119)),
  (mt 121 17),
  (o2 122 32 [.t 118,.t 120,.t 121]),
  (mt 123 122),
  (o5 124 123 (.fa 3 (.t 8))),
  (o5 125 123 (.ld 1 false (.t 124))),
  (o5 126 123 (.fa 3 (.t 2))),
  (o5 127 123 (.ld 1 false (.t 126))),
  (o5 128 123 (.mv (.t 17))),⟨some 129,some (123,true),.cl (.c (.f 32 [] [])) [.t 125,.t 127,.t 128]⟩,o1 130 (.pick (.t 123) (.t 129) (.c (.b false))),
  (mt 131 130),⟨some 132,some (131,true),.cl (.c (.f 10 [] [])) []⟩,o1 133 (.pick (.t 131) (.t 132) (.c (.b false))),
  (mt 4 133)]
abbrev QU:AF:=⟨134,(.seq (.reg JX) (.seq (.seq (.reg JW) (.cond (.t 20) (.seq (.reg JV) .ret) .skip)) (.seq (.reg JU) (.seq (.reg JT) (.seq (.seq (.reg JS) (.cond (.t 33) (.seq (.reg JR) .ret) .skip)) (.seq (.reg JQ) (.seq (.reg JP) (.seq (.reg JO) (.seq (.reg Dg) (.seq (.seq (.reg Df) (.cond (.t 101) (.seq (.reg De) .ret) .skip)) (.seq (.seq (.reg wR) (.cond (.t 112) (.seq (.reg wQ) .ret) .skip)) (.seq (.reg oG) (.seq (.reg oE) (.seq (.reg oD) .ret)))))))))))))),[.mv (.t 4)]⟩
theorem CV:bK Try.prog (aE Try.prog 8) 8=some QU:=by kernel_rfl
end Go.Proofs.Yteopfmnnhlhbmaa