/- A part of the proof of CostBounds: AcCsD. No condition. -/
import Derived.Test.YthehakngpbjgjaaGreatGd14
import Derived.Test.YthehakngpbjgjaaGreatProg
set_option linter.unusedSimpArgs false
set_option linter.unusedVariables false
set_option linter.constructorNameAsVariable false
set_option maxRecDepth 100000
set_option maxHeartbeats 4000000
namespace Go.Proofs.YthehakngpbjgjaaGreat
open Go.RowKit
/-! verifier.walker.level-/
abbrev Rz:List AO:=
 [(mt 6 0),o1 7 (.nc (.t 6)),o1 8 (.fa 7 (.t 7)),o1 9 (.ld 1 false (.t 8)),o1 10 (.len (.t 9)),
  (mt 11 2),o1 12 (.bin .eql (.t 10) (.t 11)),
  (mt 13 1),
  (o2 14 45 [.t 12,.t 13,(ci 14)])]
abbrev RB:AF:=⟨15,(.reg Rz),[]⟩
theorem RA:av Tryz.prog (aa Tryz.prog 66) 66=some RB:=by kernel_rfl
/-! verifier.join-/
abbrev Rr:List AO:=
 [o1 4 (.mv (.c .sl0))]
abbrev Rq:List AO:=
 [(mt 7 0),
  (o2 8 69 [.t 7]),
  (mt 5 8)]
abbrev Rp:List AO:=
 [(mt 9 5),o1 10 (.len (.t 9)),o1 11 (.mv (ci 0))]
abbrev Ro:List AO:=
 [o1 12 (.bin .lss (.t 11) (.t 10))]
abbrev Rn:List AO:=
 [(mt 13 11),
  (mt 6 13)]
abbrev Rt:List (Nat×AO):=
 [(2,(mt 14 5)),
  (2,(mt 15 6)),
  (2,(mt 16 0)),
  (2,(mt 17 6)),(2,(o1 18 (.ia 2 (.t 16) (.t 17)))),
  (2,(mt 20 1)),
  (2,(mt 21 6)),(2,(o1 22 (.ia 2 (.t 20) (.t 21)))),(1,(o1 19 (.ld 2 true (.t 18)))),(1,(o1 23 (.ld 2 true (.t 22)))),
  (3,(o2 24 72 [.t 19,.t 23])),(2,(o1 25 (.ia 2 (.t 14) (.t 15)))),
  (3,(o3 (.st 2 (.t 25) (.t 24))))]
abbrev Rv:AC:=
 (.seq (.reg Rn) (.mix Rt))
abbrev Rm:List AO:=
 [o1 26 (.bin .add (.t 11) (ci 1)),
  (mt 11 26)]
abbrev Rx:AC:=
 (.seq (.reg Ro) (.seq (.cond (.t 12) .skip (.exit 0)) (.seq (.block 1 Rv) (.reg Rm))))
abbrev Ru:AC:=
 (.loop Rx)
abbrev CV:List AO:=
 [(mt 27 5),
  (mt 4 27)]
abbrev Ry:AF:=⟨28,(.seq (.reg Rr) (.seq (.reg Rq) (.seq (.seq (.reg Rp) (.block 0 Ru)) (.seq (.reg CV) .ret)))),[.mv (.t 4)]⟩
theorem Rs:av Tryz.prog (aa Tryz.prog 104) 104=some Ry:=by kernel_rfl
/-! verifier.bounds.plus-/
abbrev Rj:List AO:=
 [o1 2 (.bx 126 0 (.t 0)),o1 3 (.bx 126 0 (.t 1)),o1 4 (.al 126 [.n .i64 0,.n .i64 0])]
abbrev Ri:List AO:=
 [o1 5 (.fa 0 (.t 2)),o1 6 (.ld 1 false (.t 5)),o1 7 (.fa 0 (.t 3)),o1 8 (.ld 1 false (.t 7)),o1 9 (.bin .add (.t 6) (.t 8)),⟨some 10,none,.mo (.mi (.t 9) (ci 281474976710657))⟩,o1 11 (.fa 1 (.t 2)),o1 12 (.ld 1 false (.t 11)),o1 13 (.fa 1 (.t 3)),o1 14 (.ld 1 false (.t 13)),o1 15 (.bin .add (.t 12) (.t 14)),⟨some 16,none,.mo (.mi (.t 15) (ci 281474976710657))⟩,o1 17 (.bd [.n .i64 0,.n .i64 0] [(0,1,(.t 10)),(1,1,(.t 16))]),
  (o3 (.st 2 (.t 4) (.t 17)))]
abbrev Rl:AF:=⟨18,(.seq (.reg Rj) (.seq (.reg Ri) .ret)),[.ld 2 true (.t 4)]⟩
theorem Rk:av Tryz.prog (aa Tryz.prog 90) 90=some Rl:=by kernel_rfl
/-! verifier.walker.repetition-/
abbrev Rd:List AO:=
 [o1 6 (.al 126 [.n .i64 0,.n .i64 0]),o1 7 (.mv (ci 0))]
abbrev Rc:List AO:=
 [(mt 17 0),
  (mt 18 1),
  (mt 19 2),
  (o2 20 88 [.t 17,.t 18,.t 19,(.c (.s ⟨#[110]⟩))]),o1 21 (.ia 3 (.t 20) (ci 0)),o1 22 (.fa 1 (.t 21)),o1 23 (.fa 1 (.t 22)),o1 24 (.ld 1 false (.t 23)),
  (mt 8 24)]
abbrev Rb:List AO:=
 [(mt 25 8),o1 26 (.bin .leq (.t 25) (ci 65536)),
  (mt 27 1),
  (o2 28 45 [.t 26,.t 27,(ci 18)])]
abbrev Rg:List (Nat×AO):=
 [(2,(mt 30 0)),(2,(o1 31 (.nc (.t 30)))),(2,(o1 32 (.fa 4 (.t 31)))),(2,(o1 33 (.fa 0 (.t 32)))),
  (2,(mt 35 1)),
  (2,(mt 36 8)),
  (2,(mt 37 0)),(2,(o1 38 (.nc (.t 37)))),(2,(o1 39 (.fa 6 (.t 38)))),(1,(o1 34 (.ld 1 false (.t 33)))),(1,(o1 40 (.ld 1 false (.t 39)))),(3,⟨some 41,none,.cl (.t 34) [.t 35,.t 36,.t 40]⟩),
  (2,(mt 29 41)),(2,(o1 42 (.ext 0 (.t 29)))),(2,(o1 43 (.ext 1 (.t 29)))),
  (2,(mt 9 42)),
  (2,(mt 8 43))]
abbrev Rf:List (Nat×AO):=
 [(2,(mt 44 0)),(2,(o1 45 (.nc (.t 44)))),(2,(o1 46 (.fa 3 (.t 45)))),
  (2,(mt 48 1)),
  (2,(mt 51 0)),(2,(o1 52 (.nc (.t 51)))),(2,(o1 53 (.fa 7 (.t 52)))),
  (2,(mt 56 0)),(2,(o1 57 (.nc (.t 56)))),(2,(o1 58 (.fa 9 (.t 57)))),(1,(o1 47 (.ld 1 false (.t 46)))),(2,(o1 49 (.ia 1 (.t 47) (.t 48)))),(1,(o1 50 (.ld 1 false (.t 49)))),
  (2,(mt 10 50)),(1,(o1 54 (.ld 1 false (.t 53)))),(2,(o1 55 (.len (.t 54)))),
  (2,(mt 11 55)),(1,(o1 59 (.ld 1 false (.t 58)))),
  (2,(mt 12 59))]
abbrev Ra:List AO:=
 [o1 13 (.al 126 [.n .i64 0,.n .i64 0])]
abbrev Q9:List AO:=
 [o1 14 (.mv (ci 1))]
abbrev Q8:List AO:=
 [(mt 62 0),
  (mt 63 0),
  (mt 64 9),o1 65 (.nc (.t 62)),o1 66 (.fa 6 (.t 65)),
  (o3 (.st 1 (.t 66) (.t 64))),o1 67 (.nc (.t 63)),o1 68 (.fa 9 (.t 67)),
  (o3 (.st 1 (.t 68) (.c .sl0)))]
abbrev Q7:List AO:=
 [(mt 69 0),
  (mt 70 1),o1 71 (.bin .add (.t 70) (ci 1)),
  (mt 72 10),
  (mt 73 11),
  (mt 74 11),
  (o2 75 65 [.t 69,.t 71,.t 72,.t 73,.t 74]),
  (o3 (.st 2 (.t 13) (.t 75)))]
abbrev Q6:List AO:=
 [(mt 76 0),
  (mt 77 10),
  (mt 78 11),
  (o2 79 66 [.t 76,.t 77,.t 78])]
abbrev CM:List AO:=
 [(mt 80 0),o1 81 (.nc (.t 80)),o1 82 (.fa 6 (.t 81)),o1 83 (.ld 1 false (.t 82)),
  (mt 84 9),
  (o2 85 105 [.t 83,.t 84])]
abbrev CO:List (Nat×AO):=
 [(2,(mt 86 0)),(2,(o1 87 (.nc (.t 86)))),(2,(o1 88 (.fa 4 (.t 87)))),(2,(o1 89 (.fa 1 (.t 88)))),
  (2,(mt 91 1)),
  (2,(mt 92 10)),
  (2,(mt 93 14)),
  (2,(mt 94 9)),
  (2,(mt 95 0)),(2,(o1 96 (.nc (.t 95)))),(2,(o1 97 (.fa 6 (.t 96)))),(1,(o1 90 (.ld 1 false (.t 89)))),(1,(o1 98 (.ld 1 false (.t 97)))),(3,⟨some 99,none,.cl (.t 90) [.t 91,.t 92,.t 93,.t 94,.t 98]⟩),
  (2,(mt 9 99))]
abbrev CS:AC:=
 (.seq (.reg Q8) (.seq (.reg Q7) (.seq (.reg Q6) (.seq (.seq (.reg CM) (.cond (.t 85) (.exit 0) .skip)) (.mix CO)))))
abbrev CL:List AO:=
 [(mt 60 14),o1 61 (.bin .add (.t 60) (ci 1)),
  (mt 14 61)]
abbrev CU:AC:=
 (.seq (.block 1 CS) (.reg CL))
abbrev CR:AC:=
 (.loop CU)
abbrev CN:List (Nat×AO):=
 [(2,(mt 100 0)),(2,(o1 101 (.nc (.t 100)))),(2,(o1 102 (.fa 10 (.t 101)))),
  (2,(mt 104 1)),
  (2,(mt 105 1)),
  (2,(mt 106 8)),
  (2,(mt 107 9)),(1,(o1 103 (.ld 1 false (.t 102)))),
  (0,(o2 108 69 [.t 107])),(2,(o1 109 (.bd [.n .i64 0,.n .i64 0,.sl0] [(0,1,(.t 105)),(1,1,(.t 106)),(2,1,(.t 108))]))),(3,⟨none,none,.mo (.mu (.t 103) (.t 104) (.t 109))⟩)]
abbrev CK:List AO:=
 [(mt 110 0),
  (mt 111 9),o1 112 (.nc (.t 110)),o1 113 (.fa 6 (.t 112)),
  (o3 (.st 1 (.t 113) (.t 111)))]
abbrev CJ:List AO:=
 [(mt 114 0),o1 115 (.nc (.t 114)),o1 116 (.fa 9 (.t 115)),o1 117 (.ld 1 false (.t 116)),o1 118 (.len (.t 117)),o1 119 (.mv (ci 0))]
abbrev CI:List AO:=
 [o1 120 (.bin .lss (.t 119) (.t 118))]
abbrev CH:List AO:=
 [o1 121 (.ia 1 (.t 117) (.t 119)),o1 122 (.ld 1 false (.t 121)),
  (mt 16 122)]
abbrev CG:List AO:=
 [(mt 123 0),
  (mt 124 0),o1 125 (.nc (.t 124)),o1 126 (.fa 6 (.t 125)),o1 127 (.ld 1 false (.t 126)),
  (mt 128 16),
  (o2 129 104 [.t 127,.t 128]),o1 130 (.nc (.t 123)),o1 131 (.fa 6 (.t 130)),
  (o3 (.st 1 (.t 131) (.t 129)))]
abbrev CQ:AC:=
 (.seq (.reg CH) (.reg CG))
abbrev CF:List AO:=
 [o1 132 (.bin .add (.t 119) (ci 1)),
  (mt 119 132)]
abbrev CT:AC:=
 (.seq (.reg CI) (.seq (.cond (.t 120) .skip (.exit 2)) (.seq (.block 3 CQ) (.reg CF))))
abbrev CP:AC:=
 (.loop CT)
abbrev CE:List AO:=
 [(mt 133 0),
  (mt 134 12),o1 135 (.nc (.t 133)),o1 136 (.fa 9 (.t 135)),
  (o3 (.st 1 (.t 136) (.t 134)))]
abbrev CD:List AO:=
 [o1 137 (.ld 2 true (.t 13)),
  (mt 138 8),
  (o2 139 106 [.t 137,.t 138]),o1 140 (.bd [.n .i64 0,.n .i64 0] [(0,1,(ci 1))]),
  (o2 141 90 [.t 139,.t 140]),
  (mt 142 10),
  (o3 (.st 2 (.t 6) (.t 141))),
  (mt 7 142)]
abbrev Rh:AF:=⟨143,(.seq (.reg Rd) (.seq (.reg Rc) (.seq (.reg Rb) (.seq (.mix Rg) (.seq (.mix Rf) (.seq (.reg Ra) (.seq (.seq (.reg Q9) (.block 0 CR)) (.seq (.mix CN) (.seq (.reg CK) (.seq (.seq (.reg CJ) (.block 2 CP)) (.seq (.reg CE) (.seq (.reg CD) .ret)))))))))))),[.ld 2 true (.t 6),.mv (.t 7)]⟩
theorem Re:av Tryz.prog (aa Tryz.prog 87) 87=some Rh:=by kernel_rfl
/-! verifier.within-/
abbrev Q3:List AO:=
 [o1 4 (.mv (.c (.b false)))]
abbrev Q2:List AO:=
 [(mt 5 0),
  (mt 6 1),
  (o2 7 117 [.t 5,.t 6,(.c (.f 118 [] []))]),
  (mt 4 7)]
abbrev Q5:AF:=⟨8,(.seq (.reg Q3) (.seq (.reg Q2) .ret)),[.mv (.t 4)]⟩
theorem Q4:av Tryz.prog (aa Tryz.prog 105) 105=some Q5:=by kernel_rfl
/-! slices.EqualFunc[[]api.Interval,[]api.Interval,api.Interval,api.Interval]-/
abbrev QY:List AO:=
 [o1 6 (.mv (.c (.b false)))]
abbrev QX:List AO:=
 [(mt 10 0),o1 11 (.len (.t 10)),
  (mt 12 1),o1 13 (.len (.t 12)),o1 14 (.bin .neq (.t 11) (.t 13))]
abbrev QW:List AO:=
 [o1 6 (.mv (.c (.b false)))]
abbrev QV:List AO:=
 [(mt 15 0),o1 16 (.len (.t 15)),o1 17 (.mv (ci 0))]
abbrev QU:List AO:=
 [o1 18 (.bin .lss (.t 17) (.t 16))]
abbrev QT:List AO:=
 [(mt 19 17),o1 20 (.ia 2 (.t 15) (.t 17)),o1 21 (.ld 2 true (.t 20)),o1 8 (.al 123 [.n .i64 0,.n .i64 0]),
  (mt 7 19),
  (o3 (.st 2 (.t 8) (.t 21)))]
abbrev QS:List AO:=
 [(mt 22 1),
  (mt 23 7),o1 24 (.ia 2 (.t 22) (.t 23)),o1 25 (.ld 2 true (.t 24)),o1 9 (.al 123 [.n .i64 0,.n .i64 0]),
  (o3 (.st 2 (.t 9) (.t 25)))]
abbrev QR:List AO:=
 [(mt 26 2),o1 27 (.ld 2 true (.t 8)),o1 28 (.ld 2 true (.t 9)),⟨some 29,none,.cl (.t 26) [.t 27,.t 28]⟩,o1 30 (.un .not (.t 29))]
abbrev QQ:List AO:=
 [o1 6 (.mv (.c (.b false)))]
abbrev Q0:AC:=
 (.seq (.reg QT) (.seq (.reg QS) (.seq (.reg QR) (.cond (.t 30) (.seq (.reg QQ) .ret) .skip))))
abbrev CA:List AO:=
 [o1 31 (.bin .add (.t 17) (ci 1)),
  (mt 17 31)]
abbrev CC:AC:=
 (.seq (.reg QU) (.seq (.cond (.t 18) .skip (.exit 0)) (.seq (.block 1 Q0) (.reg CA))))
abbrev CB:AC:=
 (.loop CC)
abbrev Cz:List AO:=
 [o1 6 (.mv (.c (.b true)))]
abbrev Q1:AF:=⟨32,(.seq (.reg QY) (.seq (.seq (.reg QX) (.cond (.t 14) (.seq (.reg QW) .ret) .skip)) (.seq (.seq (.reg QV) (.block 0 CB)) (.seq (.reg Cz) .ret)))),[.mv (.t 6)]⟩
theorem QZ:av Tryz.prog (aa Tryz.prog 117) 117=some Q1:=by kernel_rfl
/-! verifier.bounds.times-/
abbrev QM:List AO:=
 [o1 2 (.bx 126 0 (.t 0)),o1 3 (.bx 3 0 (.t 1)),o1 4 (.al 126 [.n .i64 0,.n .i64 0])]
abbrev QL:List AO:=
 [o1 6 (.mf 119 [] [.t 3]),
  (mt 5 6)]
abbrev QO:List (Nat×AO):=
 [(2,(mt 7 5)),(2,(o1 8 (.fa 0 (.t 2)))),
  (2,(mt 13 5)),(2,(o1 14 (.fa 1 (.t 2)))),(1,(o1 9 (.ld 1 false (.t 8)))),(2,(o1 10 (.bin .add (.t 9) (ci 1)))),(1,(o1 15 (.ld 1 false (.t 14)))),(0,⟨some 11,none,.mo (.mi (.t 10) (ci 281474976710657))⟩),(0,⟨some 12,none,.cl (.t 7) [.t 11]⟩),(3,⟨some 16,none,.cl (.t 13) [.t 15]⟩),(2,(o1 17 (.bd [.n .i64 0,.n .i64 0] [(0,1,(.t 12)),(1,1,(.t 16))]))),
  (3,(o3 (.st 2 (.t 4) (.t 17))))]
abbrev QP:AF:=⟨18,(.seq (.reg QM) (.seq (.reg QL) (.seq (.mix QO) .ret))),[.ld 2 true (.t 4)]⟩
theorem QN:av Tryz.prog (aa Tryz.prog 106) 106=some QP:=by kernel_rfl
/-! verifier.bounds.times$1-/
abbrev QI:List AO:=
 [o1 3 (.mv (ci 0))]
abbrev QH:List AO:=
 [o1 4 (.ld 1 false (.t 1)),o1 5 (.bin .gtr (.t 4) (ci 0)),
  (mt 6 5),
  (o5 7 6 (.mv (.t 0))),
  (o5 8 6 (.ld 1 false (.t 1))),
  (o5 9 6 (.bin .quo (ci 281474976710657) (.t 8))),
  (o5 10 6 (.bin .gtr (.t 7) (.t 9))),o1 11 (.pick (.t 6) (.t 10) (.c (.b false)))]
abbrev QG:List AO:=
 [o1 3 (.mv (ci 281474976710657))]
abbrev QF:List AO:=
 [(mt 12 0),o1 13 (.ld 1 false (.t 1)),o1 14 (.bin .mul (.t 12) (.t 13)),⟨some 15,none,.mo (.mi (.t 14) (ci 281474976710657))⟩,
  (mt 3 15)]
abbrev QK:AF:=⟨16,(.seq (.reg QI) (.seq (.seq (.reg QH) (.cond (.t 11) (.seq (.reg QG) .ret) .skip)) (.seq (.reg QF) .ret))),[.mv (.t 3)]⟩
theorem QJ:av Tryz.prog (aa Tryz.prog 119) 119=some QK:=by kernel_rfl
/-! verifier.walker.plain-/
abbrev Ql:List AO:=
 [o1 6 (.al 126 [.n .i64 0,.n .i64 0])]
abbrev Qk:List AO:=
 [(mt 15 0),o1 16 (.nc (.t 15)),o1 17 (.fa 0 (.t 16)),o1 18 (.fa 2 (.t 17)),o1 19 (.ld 1 false (.t 18)),
  (mt 20 1),o1 21 (.ia 2 (.t 19) (.t 20)),o1 22 (.ld 2 true (.t 21)),o1 7 (.al 82 [.n .i64 0,.n .u32 0]),
  (o3 (.st 2 (.t 7) (.t 22)))]
abbrev Qj:List AO:=
 [o1 24 (.fa 0 (.t 7)),o1 25 (.ld 1 false (.t 24)),
  (o2 26 108 [.t 25]),
  (mt 23 26),o1 27 (.ext 0 (.t 23)),o1 28 (.ext 1 (.t 23)),o1 29 (.ext 2 (.t 23)),
  (mt 8 27),
  (mt 9 28),
  (mt 10 29)]
abbrev Qi:List AO:=
 [(mt 30 0),
  (mt 31 1),
  (mt 32 2),
  (mt 33 8),
  (o2 34 88 [.t 30,.t 31,.t 32,.t 33]),
  (mt 11 34)]
abbrev Qh:List AO:=
 [o1 35 (.bd [.n .i64 0,.n .i64 0] [(0,1,(ci 1))]),o1 12 (.al 126 [.n .i64 0,.n .i64 0]),
  (o3 (.st 2 (.t 12) (.t 35)))]
abbrev Qg:List AO:=
 [o1 36 (.fa 0 (.t 7)),o1 37 (.ld 1 false (.t 36))]
abbrev Qf:List AO:=
 [o1 71 (.bin .eql (.t 37) (ci 0)),
  (mt 70 71)]
abbrev Qe:List AO:=
 [(mt 72 0),
  (mt 73 1),o1 74 (.fa 1 (.t 7)),o1 75 (.ld 1 false (.t 74)),
  (o2 76 64 [.t 75]),
  (o2 77 110 [.t 76]),o1 78 (.bs 178 3 1 [.b false,.n .i64 0,.n .i64 0] [(0,3,(.t 77))]),
  (o2 79 109 [.t 72,.t 73,.t 78])]
abbrev Qd:List AO:=
 [o1 81 (.bin .eql (.t 37) (ci 1)),
  (mt 80 81)]
abbrev Qn:List (Nat×AO):=
 [(2,(mt 82 0)),
  (2,(mt 83 1)),
  (2,(mt 84 0)),(2,(o1 85 (.nc (.t 84)))),(2,(o1 86 (.fa 6 (.t 85)))),(2,(o1 88 (.fa 1 (.t 7)))),(1,(o1 87 (.ld 1 false (.t 86)))),(1,(o1 89 (.ld 1 false (.t 88)))),(2,(o1 90 (.ia 2 (.t 87) (.t 89)))),(1,(o1 91 (.ld 2 true (.t 90)))),
  (3,(o2 92 110 [.t 91])),(3,(o1 93 (.bs 178 3 1 [.b false,.n .i64 0,.n .i64 0] [(0,3,(.t 92))]))),
  (3,(o2 94 109 [.t 82,.t 83,.t 93]))]
abbrev Cr:List AO:=
 [o1 96 (.bin .eql (.t 37) (ci 2)),
  (mt 95 96)]
abbrev Cq:List AO:=
 [(mt 97 0),
  (mt 98 0),o1 99 (.nc (.t 98)),o1 100 (.fa 6 (.t 99)),o1 101 (.ld 1 false (.t 100)),
  (o2 102 69 [.t 101]),o1 103 (.nc (.t 97)),o1 104 (.fa 6 (.t 103)),
  (o3 (.st 1 (.t 104) (.t 102)))]
abbrev Cw:List (Nat×AO):=
 [(2,(mt 105 0)),(2,(o1 106 (.nc (.t 105)))),(2,(o1 107 (.fa 6 (.t 106)))),(2,(o1 109 (.fa 1 (.t 7)))),
  (2,(mt 111 11)),(2,(o1 112 (.ia 3 (.t 111) (ci 0)))),(2,(o1 113 (.fa 1 (.t 112)))),(1,(o1 108 (.ld 1 false (.t 107)))),(1,(o1 110 (.ld 1 false (.t 109)))),(1,(o1 114 (.ld 2 true (.t 113)))),(2,(o1 115 (.ia 2 (.t 108) (.t 110)))),
  (3,(o3 (.st 2 (.t 115) (.t 114))))]
abbrev Cp:List AO:=
 [o1 117 (.bin .eql (.t 37) (ci 3)),
  (mt 116 117)]
abbrev Co:List AO:=
 [(mt 118 0),
  (mt 119 1),
  (mt 120 0),
  (mt 121 1),
  (mt 122 11),o1 123 (.ia 3 (.t 122) (ci 0)),o1 124 (.ld 3 true (.t 123)),
  (o2 125 111 [.t 120,.t 121,.t 124]),
  (o2 126 110 [.t 125]),o1 127 (.bs 178 3 1 [.b false,.n .i64 0,.n .i64 0] [(0,3,(.t 126))]),
  (o2 128 109 [.t 118,.t 119,.t 127])]
abbrev Cn:List AO:=
 [o1 130 (.bin .eql (.t 37) (ci 4)),
  (mt 129 130)]
abbrev Cm:List AO:=
 [(mt 131 0),
  (mt 132 1),
  (mt 133 11),o1 134 (.ia 3 (.t 133) (ci 0)),o1 135 (.ld 3 true (.t 134)),
  (o2 136 111 [.t 131,.t 132,.t 135])]
abbrev Cl:List AO:=
 [o1 138 (.bin .eql (.t 37) (ci 5)),
  (mt 137 138)]
abbrev Cu:List (Nat×AO):=
 [(2,(mt 139 0)),
  (2,(mt 140 1)),
  (2,(mt 141 11)),(2,(o1 142 (.ia 3 (.t 141) (ci 0)))),
  (2,(mt 144 11)),(2,(o1 145 (.ia 3 (.t 144) (ci 0)))),(1,(o1 143 (.ld 3 true (.t 142)))),(1,(o1 146 (.ld 3 true (.t 145)))),(3,(o1 147 (.bs 178 3 2 [.b false,.n .i64 0,.n .i64 0,.b false,.n .i64 0,.n .i64 0] [(0,3,(.t 143)),(3,3,(.t 146))]))),
  (3,(o2 148 109 [.t 139,.t 140,.t 147]))]
abbrev Ck:List AO:=
 [o1 150 (.bin .eql (.t 37) (ci 7)),
  (mt 149 150)]
abbrev Ct:List (Nat×AO):=
 [(2,(mt 151 0)),
  (2,(mt 152 1)),
  (2,(mt 153 11)),(2,(o1 154 (.ia 3 (.t 153) (ci 1)))),
  (2,(mt 156 11)),(2,(o1 157 (.ia 3 (.t 156) (ci 0)))),(1,(o1 155 (.ld 3 true (.t 154)))),(1,(o1 158 (.ld 3 true (.t 157)))),(3,(o1 159 (.bs 178 3 2 [.b false,.n .i64 0,.n .i64 0,.b false,.n .i64 0,.n .i64 0] [(0,3,(.t 155)),(3,3,(.t 158))]))),
  (3,(o2 160 109 [.t 151,.t 152,.t 159]))]
abbrev Cj:List AO:=
 [o1 162 (.bin .eql (.t 37) (ci 6)),
  (mt 161 162)]
abbrev Ci:List AO:=
 [o1 163 (.bin .eql (.t 37) (ci 35)),
  (mt 161 163)]
abbrev Ch:List AO:=
 [o1 165 (.bin .eql (.t 37) (ci 34)),
  (mt 164 165)]
abbrev Cg:List AO:=
 [o1 166 (.fa 1 (.t 12)),
  (o3 (.st 1 (.t 166) (ci 1)))]
abbrev Cf:List AO:=
 [o1 168 (.bin .eql (.t 37) (ci 32)),
  (mt 167 168)]
abbrev Ce:List AO:=
 [(mt 169 0),
  (mt 170 1),
  (o2 171 73 []),
  (o2 172 110 [.t 171]),o1 173 (.bs 178 3 1 [.b false,.n .i64 0,.n .i64 0] [(0,3,(.t 172))]),
  (o2 174 109 [.t 169,.t 170,.t 173])]
abbrev Cd:List AO:=
 [o1 176 (.bin .eql (.t 37) (ci 26)),
  (mt 175 176)]
abbrev Cc:List AO:=
 [(mt 177 0),
  (mt 178 1),o1 179 (.bd [.n .i64 0,.n .i64 0] [(1,1,(ci 1))]),
  (o2 180 110 [.t 179]),o1 181 (.bs 178 3 1 [.b false,.n .i64 0,.n .i64 0] [(0,3,(.t 180))]),
  (o2 182 109 [.t 177,.t 178,.t 181])]
abbrev Cb:List AO:=
 [(mt 38 9),o1 39 (.bin .eql (.t 38) (.c (.s ⟨#[116]⟩)))]
abbrev Ca:List AO:=
 [(mt 40 0),
  (mt 41 1),o1 42 (.bd [.b false,.n .i64 0,.n .i64 0] [(0,1,(.c (.b true)))]),o1 43 (.bs 178 3 1 [.b false,.n .i64 0,.n .i64 0] [(0,3,(.t 42))]),
  (o2 44 109 [.t 40,.t 41,.t 43])]
abbrev Cs:List (Nat×AO):=
 [(2,(o1 46 (.fa 0 (.t 7)))),(1,(o1 47 (.ld 1 false (.t 46)))),
  (2,(mt 48 11)),(2,(o1 49 (.ia 3 (.t 48) (ci 0)))),(2,(o1 50 (.fa 1 (.t 49)))),(1,(o1 51 (.ld 2 true (.t 50)))),
  (2,(mt 52 11)),(2,(o1 53 (.ia 3 (.t 52) (ci 1)))),(2,(o1 54 (.fa 1 (.t 53)))),(1,(o1 55 (.ld 2 true (.t 54))))]
abbrev B6:AT:=
 (.alt (o2 56 112 [.t 47,.t 51,.t 55]) (.alt (mt 45 56) (.alt (o1 57 (.ext 0 (.t 45))) (.alt (o1 58 (.ext 1 (.t 45))) (.alt (o1 13 (.al 123 [.n .i64 0,.n .i64 0])) (.alt (o3 (.st 2 (.t 13) (.t 57))) (.alt (mt 14 58) .fin .none) .none) .none) (.alt (o1 13 (.al 123 [.n .i64 0,.n .i64 0])) (.alt (o1 58 (.ext 1 (.t 45))) (.alt (o3 (.st 2 (.t 13) (.t 57))) (.alt (mt 14 58) .fin .none) .none) (.alt (o3 (.st 2 (.t 13) (.t 57))) (.alt (o1 58 (.ext 1 (.t 45))) (.alt (mt 14 58) .fin .none) .none) .none)) .none)) (.alt (o1 58 (.ext 1 (.t 45))) (.alt (o1 57 (.ext 0 (.t 45))) (.alt (o1 13 (.al 123 [.n .i64 0,.n .i64 0])) (.alt (o3 (.st 2 (.t 13) (.t 57))) (.alt (mt 14 58) .fin .none) .none) .none) (.alt (o1 13 (.al 123 [.n .i64 0,.n .i64 0])) (.alt (o1 57 (.ext 0 (.t 45))) (.alt (o3 (.st 2 (.t 13) (.t 57))) (.alt (mt 14 58) .fin .none) .none) .none) .none)) (.alt (o1 13 (.al 123 [.n .i64 0,.n .i64 0])) (.alt (o1 57 (.ext 0 (.t 45))) (.alt (o1 58 (.ext 1 (.t 45))) (.alt (o3 (.st 2 (.t 13) (.t 57))) (.alt (mt 14 58) .fin .none) .none) (.alt (o3 (.st 2 (.t 13) (.t 57))) (.alt (o1 58 (.ext 1 (.t 45))) (.alt (mt 14 58) .fin .none) .none) .none)) (.alt (o1 58 (.ext 1 (.t 45))) (.alt (o1 57 (.ext 0 (.t 45))) (.alt (o3 (.st 2 (.t 13) (.t 57))) (.alt (mt 14 58) .fin .none) .none) .none) .none)) .none))) (.alt (o1 13 (.al 123 [.n .i64 0,.n .i64 0])) (.alt (mt 45 56) (.alt (o1 57 (.ext 0 (.t 45))) (.alt (o1 58 (.ext 1 (.t 45))) (.alt (o3 (.st 2 (.t 13) (.t 57))) (.alt (mt 14 58) .fin .none) .none) (.alt (o3 (.st 2 (.t 13) (.t 57))) (.alt (o1 58 (.ext 1 (.t 45))) (.alt (mt 14 58) .fin .none) .none) .none)) (.alt (o1 58 (.ext 1 (.t 45))) (.alt (o1 57 (.ext 0 (.t 45))) (.alt (o3 (.st 2 (.t 13) (.t 57))) (.alt (mt 14 58) .fin .none) .none) .none) .none)) .none) .none)) (.alt (o1 13 (.al 123 [.n .i64 0,.n .i64 0])) (.alt (o2 56 112 [.t 47,.t 51,.t 55]) (.alt (mt 45 56) (.alt (o1 57 (.ext 0 (.t 45))) (.alt (o1 58 (.ext 1 (.t 45))) (.alt (o3 (.st 2 (.t 13) (.t 57))) (.alt (mt 14 58) .fin .none) .none) (.alt (o3 (.st 2 (.t 13) (.t 57))) (.alt (o1 58 (.ext 1 (.t 45))) (.alt (mt 14 58) .fin .none) .none) .none)) (.alt (o1 58 (.ext 1 (.t 45))) (.alt (o1 57 (.ext 0 (.t 45))) (.alt (o3 (.st 2 (.t 13) (.t 57))) (.alt (mt 14 58) .fin .none) .none) .none) .none)) .none) .none) .none))
abbrev B9:List AO:=
 [(mt 59 14),o1 60 (.bin .eql (.t 59) (ci 0)),
  (mt 61 1),
  (mt 62 14),
  (o2 63 45 [.t 60,.t 61,.t 62])]
abbrev B8:List AO:=
 [(mt 64 0),
  (mt 65 1),o1 66 (.ld 2 true (.t 13)),
  (o2 67 110 [.t 66]),o1 68 (.bs 178 3 1 [.b false,.n .i64 0,.n .i64 0] [(0,3,(.t 67))]),
  (o2 69 109 [.t 64,.t 65,.t 68])]
abbrev Cx:AC:=
 (.seq (.reg Qf) (.cond (.t 70) (.reg Qe) (.seq (.reg Qd) (.cond (.t 80) (.mix Qn) (.seq (.reg Cr) (.cond (.t 95) (.seq (.reg Cq) (.mix Cw)) (.seq (.reg Cp) (.cond (.t 116) (.reg Co) (.seq (.reg Cn) (.cond (.t 129) (.reg Cm) (.seq (.reg Cl) (.cond (.t 137) (.mix Cu) (.seq (.reg Ck) (.cond (.t 149) (.mix Ct) (.seq (.seq (.reg Cj) (.cond (.t 161) .skip (.reg Ci))) (.cond (.t 161) .skip (.seq (.reg Ch) (.cond (.t 164) (.reg Cg) (.seq (.reg Cf) (.cond (.t 167) (.reg Ce) (.seq (.reg Cd) (.cond (.t 175) (.reg Cc) (.seq (.seq (.reg Cb) (.cond (.t 39) (.seq (.reg Ca) (.exit 0)) .skip)) (.seq (.frk Cs B6) (.seq (.reg B9) (.reg B8))))))))))))))))))))))))))
abbrev B7:List AO:=
 [o1 183 (.ld 2 true (.t 12)),
  (o3 (.st 2 (.t 6) (.t 183)))]
abbrev Qo:AF:=⟨184,(.seq (.reg Ql) (.seq (.reg Qk) (.seq (.reg Qj) (.seq (.reg Qi) (.seq (.reg Qh) (.seq (.seq (.reg Qg) (.block 0 Cx)) (.seq (.reg B7) .ret))))))),[.ld 2 true (.t 6)]⟩
theorem Qm:av Tryz.prog (aa Tryz.prog 89) 89=some Qo:=by kernel_rfl
/-! instruction.Effect-/
abbrev P9:List AO:=
 [o1 2 (.mv (.c (.s ⟨#[]⟩))),o1 3 (.mv (.c (.s ⟨#[]⟩))),o1 4 (.mv (.c (.b false)))]
abbrev P8:List AO:=
 [(mt 8 0),
  (o2 9 50 [.t 8]),
  (mt 7 9),o1 10 (.ext 0 (.t 7)),o1 11 (.ext 1 (.t 7)),o1 5 (.al 96 [.s ⟨#[]⟩,.s ⟨#[]⟩,.s ⟨#[]⟩,.n .u64 0,.b false]),
  (o3 (.st 5 (.t 5) (.t 10))),
  (mt 6 11)]
abbrev Qb:List (Nat×AO):=
 [(2,(o1 12 (.fa 1 (.t 5)))),(2,(o1 14 (.fa 2 (.t 5)))),
  (2,(mt 16 6)),(1,(o1 13 (.ld 1 false (.t 12)))),
  (2,(mt 2 13)),(1,(o1 15 (.ld 1 false (.t 14)))),
  (2,(mt 3 15)),
  (2,(mt 4 16))]
abbrev Qc:AF:=⟨17,(.seq (.reg P9) (.seq (.reg P8) (.seq (.mix Qb) .ret))),[.mv (.t 2),.mv (.t 3),.mv (.t 4)]⟩
theorem Qa:av Tryz.prog (aa Tryz.prog 108) 108=some Qc:=by kernel_rfl
/-! verifier.numeric-/
abbrev P5:List AO:=
 [o1 1 (.bx 123 0 (.t 0)),o1 2 (.al 178 [.b false,.n .i64 0,.n .i64 0])]
abbrev P4:List AO:=
 [o1 3 (.ld 2 true (.t 1)),o1 4 (.bd [.b false,.n .i64 0,.n .i64 0] [(1,2,(.t 3))]),
  (o3 (.st 3 (.t 2) (.t 4)))]
abbrev P7:AF:=⟨5,(.seq (.reg P5) (.seq (.reg P4) .ret)),[.ld 3 true (.t 2)]⟩
theorem P6:av Tryz.prog (aa Tryz.prog 110) 110=some P7:=by kernel_rfl
/-! verifier.walker.push-/
abbrev P0:List AO:=
 [(mt 6 0),
  (mt 7 0),o1 8 (.nc (.t 7)),o1 9 (.fa 7 (.t 8)),o1 10 (.ld 1 false (.t 9)),
  (mt 11 2),o1 12 (.app 178 3 24 (.t 10) (.t 11)),o1 13 (.nc (.t 6)),o1 14 (.fa 7 (.t 13)),
  (o3 (.st 1 (.t 14) (.t 12)))]
abbrev PZ:List AO:=
 [(mt 15 0),o1 16 (.nc (.t 15)),o1 17 (.fa 7 (.t 16)),o1 18 (.ld 1 false (.t 17)),o1 19 (.len (.t 18)),o1 20 (.bin .leq (.t 19) (ci 32)),
  (mt 21 1),
  (o2 22 45 [.t 20,.t 21,(ci 14)])]
abbrev P2:List (Nat×AO):=
 [(2,(mt 23 0)),
  (2,(mt 24 0)),(2,(o1 25 (.nc (.t 24)))),(2,(o1 26 (.fa 8 (.t 25)))),
  (2,(mt 28 0)),(2,(o1 29 (.nc (.t 28)))),(2,(o1 30 (.fa 7 (.t 29)))),(1,(o1 27 (.ld 1 false (.t 26)))),(1,(o1 31 (.ld 1 false (.t 30)))),(2,(o1 32 (.len (.t 31)))),(3,⟨some 33,none,.mo (.mx (.t 27) (.t 32))⟩),(2,(o1 34 (.nc (.t 23)))),(2,(o1 35 (.fa 8 (.t 34)))),
  (3,(o3 (.st 1 (.t 35) (.t 33))))]
abbrev P3:AF:=⟨36,(.seq (.reg P0) (.seq (.reg PZ) (.mix P2))),[]⟩
theorem P1:av Tryz.prog (aa Tryz.prog 109) 109=some P3:=by kernel_rfl
/-! verifier.walker.element-/
abbrev PV:List AO:=
 [o1 5 (.bx 178 0 (.t 2)),o1 6 (.al 123 [.n .i64 0,.n .i64 0])]
abbrev PX:List (Nat×AO):=
 [(2,(mt 8 0)),(2,(o1 9 (.nc (.t 8)))),(2,(o1 10 (.fa 0 (.t 9)))),(2,(o1 11 (.fa 0 (.t 10)))),
  (2,(mt 13 0)),(2,(o1 14 (.nc (.t 13)))),(2,(o1 15 (.fa 0 (.t 14)))),(2,(o1 16 (.fa 2 (.t 15)))),
  (2,(mt 18 1)),(1,(o1 12 (.ld 1 false (.t 11)))),(1,(o1 17 (.ld 1 false (.t 16)))),(2,(o1 19 (.ia 2 (.t 17) (.t 18)))),(2,(o1 20 (.fa 1 (.t 19)))),(1,(o1 21 (.ld 1 false (.t 20)))),(2,(o1 22 (.ia 2 (.t 12) (.t 21)))),(1,(o1 23 (.ld 2 true (.t 22)))),(0,(o1 7 (.al 50 [.b false,.n .i64 0]))),
  (3,(o3 (.st 2 (.t 7) (.t 23))))]
abbrev PU:List AO:=
 [o1 24 (.fa 1 (.t 5)),o1 25 (.fa 1 (.t 24)),o1 26 (.ld 1 false (.t 25)),o1 27 (.fa 1 (.t 7)),o1 28 (.ld 1 false (.t 27)),o1 29 (.bin .lss (.t 26) (.t 28)),
  (mt 30 1),
  (o2 31 45 [.t 29,.t 30,(ci 16)])]
abbrev PS:List AO:=
 [o1 32 (.fa 0 (.t 7)),o1 33 (.ld 1 false (.t 32))]
abbrev PR:List AO:=
 [(o2 34 73 []),
  (o3 (.st 2 (.t 6) (.t 34)))]
abbrev PQ:List AO:=
 [o1 35 (.bd [.n .i64 0,.n .i64 0] [(1,1,(ci 255))]),
  (o3 (.st 2 (.t 6) (.t 35)))]
abbrev PY:AF:=⟨36,(.seq (.reg PV) (.seq (.mix PX) (.seq (.reg PU) (.seq (.seq (.reg PS) (.cond (.t 33) (.seq (.reg PR) .ret) .skip)) (.seq (.reg PQ) .ret))))),[.ld 2 true (.t 6)]⟩
theorem PW:av Tryz.prog (aa Tryz.prog 111) 111=some PY:=by kernel_rfl
/-! interval.Apply-/
abbrev PL:List AO:=
 [o1 4 (.bx 123 0 (.t 1)),o1 5 (.bx 123 0 (.t 2)),o1 6 (.al 123 [.n .i64 0,.n .i64 0]),o1 7 (.mv (ci 0))]
abbrev PK:List AO:=
 [o1 15 (.ld 2 true (.t 4)),o1 16 (.ld 2 true (.t 5)),o1 17 (.bs 123 2 2 [.n .i64 0,.n .i64 0,.n .i64 0,.n .i64 0] [(0,2,(.t 15)),(2,2,(.t 16))]),o1 18 (.len (.t 17)),o1 19 (.mv (ci 0))]
abbrev PJ:List AO:=
 [o1 20 (.bin .lss (.t 19) (.t 18))]
abbrev PH:List AO:=
 [o1 21 (.ia 2 (.t 17) (.t 19)),o1 22 (.ld 2 true (.t 21)),o1 9 (.al 123 [.n .i64 0,.n .i64 0]),
  (o3 (.st 2 (.t 9) (.t 22)))]
abbrev PG:List AO:=
 [o1 23 (.ld 2 true (.t 9)),
  (o2 24 113 [.t 23]),
  (mt 10 24)]
abbrev PF:List AO:=
 [(mt 25 10),o1 26 (.bin .neq (.t 25) (ci 0))]
abbrev PE:List AO:=
 [o1 27 (.bd [.n .i64 0,.n .i64 0] []),
  (mt 28 10),
  (o3 (.st 2 (.t 6) (.t 27))),
  (mt 7 28)]
abbrev PN:AC:=
 (.seq (.reg PH) (.seq (.reg PG) (.seq (.reg PF) (.cond (.t 26) (.seq (.reg PE) .ret) .skip))))
abbrev PD:List AO:=
 [o1 29 (.bin .add (.t 19) (ci 1)),
  (mt 19 29)]
abbrev PO:AC:=
 (.seq (.reg PJ) (.seq (.cond (.t 20) .skip (.exit 0)) (.seq (.block 1 PN) (.reg PD))))
abbrev B5:AC:=
 (.loop PO)
abbrev B3:List AO:=
 [(o2 31 120 []),
  (mt 32 0),⟨some 33,none,.mo (.lk .f0 true (.t 31) (.t 32))⟩,
  (mt 30 33),o1 34 (.ext 0 (.t 30)),o1 35 (.ext 1 (.t 30)),
  (mt 11 34),
  (mt 12 35)]
abbrev B2:List AO:=
 [(mt 37 12),o1 38 (.un .not (.t 37)),
  (mt 39 38),
  (o5 40 39 (.mv (.t 0))),
  (o5 41 39 (.bin .lss (.t 40) (ci 21))),
  (o5 42 39 (.mv (.t 41))),
  (o4 43 42 (.mv (.t 0))),
  (o4 44 42 (.bin .gtr (.t 43) (ci 26))),
  (o5 45 39 (.pick (.t 42) (.c (.b true)) (.t 44))),o1 46 (.pick (.t 39) (.t 45) (.c (.b false))),
  (mt 36 46)]
abbrev B1:List AO:=
 [o1 47 (.bd [.n .i64 0,.n .i64 0] []),
  (o3 (.st 2 (.t 6) (.t 47))),o1 7 (.mv (ci 1))]
abbrev B0:List AO:=
 [(mt 49 12),o1 50 (.un .not (.t 49)),
  (mt 48 50)]
abbrev BW:List AO:=
 [o1 51 (.bd [.n .i64 0,.n .i64 0] [(1,1,(ci 1))]),
  (o3 (.st 2 (.t 6) (.t 51))),o1 7 (.mv (ci 0))]
abbrev BV:List AO:=
 [o1 53 (.fa 0 (.t 5)),o1 54 (.ld 1 false (.t 53)),o1 55 (.bin .eql (.t 54) (ci 0)),
  (mt 56 55),
  (o5 57 56 (.mv (.t 0))),
  (o5 58 56 (.bin .eql (.t 57) (ci 11))),
  (o5 59 56 (.mv (.t 58))),
  (o4 60 59 (.mv (.t 0))),
  (o4 61 59 (.bin .eql (.t 60) (ci 12))),
  (o5 62 56 (.pick (.t 59) (.c (.b true)) (.t 61))),o1 63 (.pick (.t 56) (.t 62) (.c (.b false))),
  (mt 52 63)]
abbrev BU:List AO:=
 [o1 64 (.bd [.n .i64 0,.n .i64 0] []),
  (o3 (.st 2 (.t 6) (.t 64))),o1 7 (.mv (ci 17))]
abbrev BQ:List AO:=
 [o1 66 (.fa 0 (.t 4)),o1 67 (.ld 1 false (.t 66)),o1 68 (.fa 1 (.t 4)),o1 69 (.ld 1 false (.t 68)),o1 70 (.bin .eql (.t 67) (.t 69)),
  (mt 71 70),
  (o5 72 71 (.fa 0 (.t 5))),
  (o5 73 71 (.ld 1 false (.t 72))),
  (o5 74 71 (.fa 1 (.t 5))),
  (o5 75 71 (.ld 1 false (.t 74))),
  (o5 76 71 (.bin .eql (.t 73) (.t 75))),o1 77 (.pick (.t 71) (.t 76) (.c (.b false))),
  (mt 65 77)]
abbrev BP:List AO:=
 [(mt 79 0),o1 80 (.fa 0 (.t 4)),o1 81 (.ld 1 false (.t 80)),o1 82 (.cvi .u32 (.t 81)),o1 83 (.fa 0 (.t 5)),o1 84 (.ld 1 false (.t 83)),o1 85 (.cvi .u32 (.t 84)),
  (o2 86 121 [.t 79,.t 82,.t 85]),
  (mt 78 86),o1 87 (.ext 0 (.t 78)),o1 88 (.ext 1 (.t 78)),
  (mt 13 87),
  (mt 14 88)]
abbrev BO:List AO:=
 [(mt 89 13),
  (o2 90 64 [.t 89]),
  (mt 91 14),
  (o3 (.st 2 (.t 6) (.t 90))),
  (mt 7 91)]
abbrev B4:AC:=
 (.seq (.reg B2) (.cond (.t 36) (.seq (.reg B1) .ret) (.seq (.reg B0) (.cond (.t 48) (.seq (.reg BW) .ret) (.seq (.reg BV) (.cond (.t 52) (.seq (.reg BU) .ret) (.seq (.reg BQ) (.cond (.t 65) (.seq (.reg BP) (.seq (.reg BO) .ret)) .skip))))))))
abbrev BL:List AO:=
 [(mt 92 11),o1 93 (.fa 0 (.t 4)),o1 94 (.ld 1 false (.t 93)),o1 95 (.fa 1 (.t 4)),o1 96 (.ld 1 false (.t 95)),o1 97 (.fa 0 (.t 5)),o1 98 (.ld 1 false (.t 97)),o1 99 (.fa 1 (.t 5)),o1 100 (.ld 1 false (.t 99)),o1 101 (.bd [.n .i64 0,.n .i64 0,.n .i64 0,.n .i64 0] [(0,1,(.t 94)),(1,1,(.t 96)),(2,1,(.t 98)),(3,1,(.t 100))]),⟨some 102,none,.cl (.t 92) [.t 101]⟩,
  (o3 (.st 2 (.t 6) (.t 102))),o1 7 (.mv (ci 0))]
abbrev PP:AF:=⟨103,(.seq (.reg PL) (.seq (.seq (.reg PK) (.block 0 B5)) (.seq (.reg B3) (.seq (.block 2 B4) (.seq (.reg BL) .ret))))),[.ld 2 true (.t 6),.mv (.t 7)]⟩
theorem PM:av Tryz.prog (aa Tryz.prog 112) 112=some PP:=by kernel_rfl
/-! interval.rules-/
abbrev Pz:List AO:=
 [o1 0 (.mv (.c (.cv (.map none))))]
abbrev PB:AF:=⟨3,(.seq (.reg Pz) (.seq .die .ret)),[.mv (.t 0)]⟩
theorem PA:av Tryz.prog (aa Tryz.prog 120) 120=some PB:=by kernel_rfl
/-! instruction.Apply-/
abbrev Pv:List AO:=
 [o1 6 (.mv (.c (.n .u32 0))),o1 7 (.mv (ci 0))]
abbrev Pu:List AO:=
 [(o2 11 137 []),
  (mt 12 0),⟨some 13,none,.mo (.lk .f0 true (.t 11) (.t 12))⟩,
  (mt 10 13),o1 14 (.ext 0 (.t 10)),o1 15 (.ext 1 (.t 10)),
  (mt 8 14),
  (mt 9 15)]
abbrev Pt:List AO:=
 [(mt 17 9),o1 18 (.un .not (.t 17)),
  (mt 16 18)]
abbrev Ps:List AO:=
 [o1 6 (.mv (.c (.n .u32 0))),o1 7 (.mv (ci 1))]
abbrev Pq:List AO:=
 [(mt 20 2),o1 21 (.bin .eql (.t 20) (.c (.n .u32 0))),
  (mt 22 21),
  (o5 23 22 (.mv (.t 0))),
  (o5 24 22 (.bin .eql (.t 23) (ci 11))),
  (o5 25 22 (.mv (.t 24))),
  (o4 26 25 (.mv (.t 0))),
  (o4 27 25 (.bin .eql (.t 26) (ci 12))),
  (o5 28 22 (.pick (.t 25) (.c (.b true)) (.t 27))),o1 29 (.pick (.t 22) (.t 28) (.c (.b false))),
  (mt 19 29)]
abbrev Pp:List AO:=
 [o1 6 (.mv (.c (.n .u32 0))),o1 7 (.mv (ci 17))]
abbrev Px:AC:=
 (.seq (.reg Pt) (.cond (.t 16) (.seq (.reg Ps) .ret) (.seq (.reg Pq) (.cond (.t 19) (.seq (.reg Pp) .ret) .skip))))
abbrev Po:List AO:=
 [(mt 30 8),
  (mt 31 1),
  (mt 32 2),⟨some 33,none,.cl (.t 30) [.t 31,.t 32]⟩,
  (mt 6 33),o1 7 (.mv (ci 0))]
abbrev Py:AF:=⟨34,(.seq (.reg Pv) (.seq (.reg Pu) (.seq (.block 0 Px) (.seq (.reg Po) .ret)))),[.mv (.t 6),.mv (.t 7)]⟩
theorem Pw:av Tryz.prog (aa Tryz.prog 121) 121=some Py:=by kernel_rfl
/-! instruction.combinations-/
abbrev Pk:List AO:=
 [o1 0 (.mv (.c (.cv (.map none))))]
abbrev Pn:AF:=⟨3,(.seq (.reg Pk) (.seq .die .ret)),[.mv (.t 0)]⟩
theorem Pm:av Tryz.prog (aa Tryz.prog 137) 137=some Pn:=by kernel_rfl
end Go.Proofs.YthehakngpbjgjaaGreat