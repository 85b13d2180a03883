/- A part of the proof of CostReports: AcCsD AcCsF. No condition. -/
import Derived.Test.YtdpkgnmmikebdaaGreatGe14
import Derived.Test.YtdpkgnmmikebdaaGreatProg
set_option linter.unusedSimpArgs false
set_option linter.unusedVariables false
set_option linter.constructorNameAsVariable false
set_option maxRecDepth 100000
set_option maxHeartbeats 4000000
namespace Go.Proofs.YtdpkgnmmikebdaaGreat
open Go.RowKit
/-! verifier.walker.level-/
abbrev VQ:List AO:=
 [(mt 6 0),o1 7 (.nc (.t 6)),o1 8 (.fa 7 (.t 7)),o1 9 (.ld 1 false (.t 8)),o1 10 (.len (.t 9)),
  (mt 11 2),o1 12 (.bin .eql (.t 10) (.t 11)),
  (mt 13 1),
  (o2 14 33 [.t 12,.t 13,(ci 14)])]
abbrev VS:AF:=⟨15,(.reg VQ),[]⟩
theorem DE:ax Tryz.prog (af Tryz.prog 56) 56=some VS:=by kernel_rfl
/-! verifier.join-/
abbrev VK:List AO:=
 [o1 4 (.mv (.c .sl0))]
abbrev VJ:List AO:=
 [(mt 7 0),
  (o2 8 59 [.t 7]),
  (mt 5 8)]
abbrev VI:List AO:=
 [(mt 9 5),o1 10 (.len (.t 9)),o1 11 (.mv (ci 0))]
abbrev VH:List AO:=
 [o1 12 (.bin .lss (.t 11) (.t 10))]
abbrev VG:List AO:=
 [(mt 13 11),
  (mt 6 13)]
abbrev VL:List (Nat×AO):=
 [(2,(mt 14 5)),
  (2,(mt 15 6)),
  (2,(mt 16 0)),
  (2,(mt 17 6)),(2,(o1 18 (.ia 2 (.t 16) (.t 17)))),
  (2,(mt 20 1)),
  (2,(mt 21 6)),(2,(o1 22 (.ia 2 (.t 20) (.t 21)))),(1,(o1 19 (.ld 2 true (.t 18)))),(1,(o1 23 (.ld 2 true (.t 22)))),
  (3,(o2 24 62 [.t 19,.t 23])),(2,(o1 25 (.ia 2 (.t 14) (.t 15)))),
  (3,(o3 (.st 2 (.t 25) (.t 24))))]
abbrev VN:AC:=
 (.seq (.reg VG) (.mix VL))
abbrev VF:List AO:=
 [o1 26 (.bin .add (.t 11) (ci 1)),
  (mt 11 26)]
abbrev VO:AC:=
 (.seq (.reg VH) (.seq (.cond (.t 12) .skip (.exit 0)) (.seq (.block 1 VN) (.reg VF))))
abbrev VM:AC:=
 (.loop VO)
abbrev I9:List AO:=
 [(mt 27 5),
  (mt 4 27)]
abbrev VP:AF:=⟨28,(.seq (.reg VK) (.seq (.reg VJ) (.seq (.seq (.reg VI) (.block 0 VM)) (.seq (.reg I9) .ret)))),[.mv (.t 4)]⟩
theorem DD:ax Tryz.prog (af Tryz.prog 120) 120=some VP:=by kernel_rfl
/-! verifier.bounds.plus-/
abbrev VD:List AO:=
 [o1 2 (.bx 130 0 (.t 0)),o1 3 (.bx 130 0 (.t 1)),o1 4 (.al 130 [.n .i64 0,.n .i64 0])]
abbrev VC:List AO:=
 [o1 5 (.fa 0 (.t 2)),o1 6 (.ld 1 false (.t 5)),o1 7 (.fa 0 (.t 3)),o1 8 (.ld 1 false (.t 7)),o1 9 (.bin .add (.t 6) (.t 8)),⟨some 10,none,.mo (.mi (.t 9) (ci 281474976710657))⟩,o1 11 (.fa 1 (.t 2)),o1 12 (.ld 1 false (.t 11)),o1 13 (.fa 1 (.t 3)),o1 14 (.ld 1 false (.t 13)),o1 15 (.bin .add (.t 12) (.t 14)),⟨some 16,none,.mo (.mi (.t 15) (ci 281474976710657))⟩,o1 17 (.bd [.n .i64 0,.n .i64 0] [(0,1,(.t 10)),(1,1,(.t 16))]),
  (o3 (.st 2 (.t 4) (.t 17)))]
abbrev VE:AF:=⟨18,(.seq (.reg VD) (.seq (.reg VC) .ret)),[.ld 2 true (.t 4)]⟩
theorem DC:ax Tryz.prog (af Tryz.prog 90) 90=some VE:=by kernel_rfl
/-! verifier.walker.repetition-/
abbrev Vy:List AO:=
 [o1 6 (.al 130 [.n .i64 0,.n .i64 0]),o1 7 (.mv (ci 0))]
abbrev Vx:List AO:=
 [(mt 17 0),
  (mt 18 1),
  (mt 19 2),
  (o2 20 88 [.t 17,.t 18,.t 19,(.c (.s ⟨#[110]⟩))]),o1 21 (.ia 3 (.t 20) (ci 0)),o1 22 (.fa 1 (.t 21)),o1 23 (.fa 1 (.t 22)),o1 24 (.ld 1 false (.t 23)),
  (mt 8 24)]
abbrev Vv:List AO:=
 [(mt 25 8),o1 26 (.bin .leq (.t 25) (ci 65536)),
  (mt 27 1),
  (o2 28 33 [.t 26,.t 27,(ci 18)])]
abbrev VA:List (Nat×AO):=
 [(2,(mt 30 0)),(2,(o1 31 (.nc (.t 30)))),(2,(o1 32 (.fa 4 (.t 31)))),(2,(o1 33 (.fa 0 (.t 32)))),
  (2,(mt 35 1)),
  (2,(mt 36 8)),
  (2,(mt 37 0)),(2,(o1 38 (.nc (.t 37)))),(2,(o1 39 (.fa 6 (.t 38)))),(1,(o1 34 (.ld 1 false (.t 33)))),(1,(o1 40 (.ld 1 false (.t 39)))),(3,⟨some 41,none,.cl (.t 34) [.t 35,.t 36,.t 40]⟩),
  (2,(mt 29 41)),(2,(o1 42 (.ext 0 (.t 29)))),(2,(o1 43 (.ext 1 (.t 29)))),
  (2,(mt 9 42)),
  (2,(mt 8 43))]
abbrev Vz:List (Nat×AO):=
 [(2,(mt 44 0)),(2,(o1 45 (.nc (.t 44)))),(2,(o1 46 (.fa 3 (.t 45)))),
  (2,(mt 48 1)),
  (2,(mt 51 0)),(2,(o1 52 (.nc (.t 51)))),(2,(o1 53 (.fa 7 (.t 52)))),
  (2,(mt 56 0)),(2,(o1 57 (.nc (.t 56)))),(2,(o1 58 (.fa 9 (.t 57)))),(1,(o1 47 (.ld 1 false (.t 46)))),(2,(o1 49 (.ia 1 (.t 47) (.t 48)))),(1,(o1 50 (.ld 1 false (.t 49)))),
  (2,(mt 10 50)),(1,(o1 54 (.ld 1 false (.t 53)))),(2,(o1 55 (.len (.t 54)))),
  (2,(mt 11 55)),(1,(o1 59 (.ld 1 false (.t 58)))),
  (2,(mt 12 59))]
abbrev Vu:List AO:=
 [o1 13 (.al 130 [.n .i64 0,.n .i64 0])]
abbrev Vt:List AO:=
 [o1 14 (.mv (ci 1))]
abbrev Vs:List AO:=
 [(mt 62 0),
  (mt 63 0),
  (mt 64 9),o1 65 (.nc (.t 62)),o1 66 (.fa 6 (.t 65)),
  (o3 (.st 1 (.t 66) (.t 64))),o1 67 (.nc (.t 63)),o1 68 (.fa 9 (.t 67)),
  (o3 (.st 1 (.t 68) (.c .sl0)))]
abbrev Vr:List AO:=
 [(mt 69 0),
  (mt 70 1),o1 71 (.bin .add (.t 70) (ci 1)),
  (mt 72 10),
  (mt 73 11),
  (mt 74 11),
  (o2 75 55 [.t 69,.t 71,.t 72,.t 73,.t 74]),
  (o3 (.st 2 (.t 13) (.t 75)))]
abbrev Vq:List AO:=
 [(mt 76 0),
  (mt 77 10),
  (mt 78 11),
  (o2 79 56 [.t 76,.t 77,.t 78])]
abbrev I0:List AO:=
 [(mt 80 0),o1 81 (.nc (.t 80)),o1 82 (.fa 6 (.t 81)),o1 83 (.ld 1 false (.t 82)),
  (mt 84 9),
  (o2 85 121 [.t 83,.t 84])]
abbrev I2:List (Nat×AO):=
 [(2,(mt 86 0)),(2,(o1 87 (.nc (.t 86)))),(2,(o1 88 (.fa 4 (.t 87)))),(2,(o1 89 (.fa 1 (.t 88)))),
  (2,(mt 91 1)),
  (2,(mt 92 10)),
  (2,(mt 93 14)),
  (2,(mt 94 9)),
  (2,(mt 95 0)),(2,(o1 96 (.nc (.t 95)))),(2,(o1 97 (.fa 6 (.t 96)))),(1,(o1 90 (.ld 1 false (.t 89)))),(1,(o1 98 (.ld 1 false (.t 97)))),(3,⟨some 99,none,.cl (.t 90) [.t 91,.t 92,.t 93,.t 94,.t 98]⟩),
  (2,(mt 9 99))]
abbrev I6:AC:=
 (.seq (.reg Vs) (.seq (.reg Vr) (.seq (.reg Vq) (.seq (.seq (.reg I0) (.cond (.t 85) (.exit 0) .skip)) (.mix I2)))))
abbrev IZ:List AO:=
 [(mt 60 14),o1 61 (.bin .add (.t 60) (ci 1)),
  (mt 14 61)]
abbrev I8:AC:=
 (.seq (.block 1 I6) (.reg IZ))
abbrev I5:AC:=
 (.loop I8)
abbrev I1:List (Nat×AO):=
 [(2,(mt 100 0)),(2,(o1 101 (.nc (.t 100)))),(2,(o1 102 (.fa 10 (.t 101)))),
  (2,(mt 104 1)),
  (2,(mt 105 1)),
  (2,(mt 106 8)),
  (2,(mt 107 9)),(1,(o1 103 (.ld 1 false (.t 102)))),
  (0,(o2 108 59 [.t 107])),(2,(o1 109 (.bd [.n .i64 0,.n .i64 0,.sl0] [(0,1,(.t 105)),(1,1,(.t 106)),(2,1,(.t 108))]))),(3,⟨none,none,.mo (.mu (.t 103) (.t 104) (.t 109))⟩)]
abbrev IY:List AO:=
 [(mt 110 0),
  (mt 111 9),o1 112 (.nc (.t 110)),o1 113 (.fa 6 (.t 112)),
  (o3 (.st 1 (.t 113) (.t 111)))]
abbrev IX:List AO:=
 [(mt 114 0),o1 115 (.nc (.t 114)),o1 116 (.fa 9 (.t 115)),o1 117 (.ld 1 false (.t 116)),o1 118 (.len (.t 117)),o1 119 (.mv (ci 0))]
abbrev IW:List AO:=
 [o1 120 (.bin .lss (.t 119) (.t 118))]
abbrev IV:List AO:=
 [o1 121 (.ia 1 (.t 117) (.t 119)),o1 122 (.ld 1 false (.t 121)),
  (mt 16 122)]
abbrev IU:List AO:=
 [(mt 123 0),
  (mt 124 0),o1 125 (.nc (.t 124)),o1 126 (.fa 6 (.t 125)),o1 127 (.ld 1 false (.t 126)),
  (mt 128 16),
  (o2 129 120 [.t 127,.t 128]),o1 130 (.nc (.t 123)),o1 131 (.fa 6 (.t 130)),
  (o3 (.st 1 (.t 131) (.t 129)))]
abbrev I4:AC:=
 (.seq (.reg IV) (.reg IU))
abbrev IR:List AO:=
 [o1 132 (.bin .add (.t 119) (ci 1)),
  (mt 119 132)]
abbrev I7:AC:=
 (.seq (.reg IW) (.seq (.cond (.t 120) .skip (.exit 2)) (.seq (.block 3 I4) (.reg IR))))
abbrev I3:AC:=
 (.loop I7)
abbrev IQ:List AO:=
 [(mt 133 0),
  (mt 134 12),o1 135 (.nc (.t 133)),o1 136 (.fa 9 (.t 135)),
  (o3 (.st 1 (.t 136) (.t 134)))]
abbrev IP:List AO:=
 [o1 137 (.ld 2 true (.t 13)),
  (mt 138 8),
  (o2 139 122 [.t 137,.t 138]),o1 140 (.bd [.n .i64 0,.n .i64 0] [(0,1,(ci 1))]),
  (o2 141 90 [.t 139,.t 140]),
  (mt 142 10),
  (o3 (.st 2 (.t 6) (.t 141))),
  (mt 7 142)]
abbrev VB:AF:=⟨143,(.seq (.reg Vy) (.seq (.reg Vx) (.seq (.reg Vv) (.seq (.mix VA) (.seq (.mix Vz) (.seq (.reg Vu) (.seq (.seq (.reg Vt) (.block 0 I5)) (.seq (.mix I1) (.seq (.reg IY) (.seq (.seq (.reg IX) (.block 2 I3)) (.seq (.reg IQ) (.seq (.reg IP) .ret)))))))))))),[.ld 2 true (.t 6),.mv (.t 7)]⟩
theorem DB:ax Tryz.prog (af Tryz.prog 87) 87=some VB:=by kernel_rfl
/-! verifier.within-/
abbrev Vo:List AO:=
 [o1 4 (.mv (.c (.b false)))]
abbrev Vn:List AO:=
 [(mt 5 0),
  (mt 6 1),
  (o2 7 171 [.t 5,.t 6,(.c (.f 172 [] []))]),
  (mt 4 7)]
abbrev Vp:AF:=⟨8,(.seq (.reg Vo) (.seq (.reg Vn) .ret)),[.mv (.t 4)]⟩
theorem DA:ax Tryz.prog (af Tryz.prog 121) 121=some Vp:=by kernel_rfl
/-! slices.EqualFunc[[]api.Interval,[]api.Interval,api.Interval,api.Interval]-/
abbrev Vj:List AO:=
 [o1 6 (.mv (.c (.b false)))]
abbrev Vi:List AO:=
 [(mt 10 0),o1 11 (.len (.t 10)),
  (mt 12 1),o1 13 (.len (.t 12)),o1 14 (.bin .neq (.t 11) (.t 13))]
abbrev Vh:List AO:=
 [o1 6 (.mv (.c (.b false)))]
abbrev Vg:List AO:=
 [(mt 15 0),o1 16 (.len (.t 15)),o1 17 (.mv (ci 0))]
abbrev Vf:List AO:=
 [o1 18 (.bin .lss (.t 17) (.t 16))]
abbrev Ve:List AO:=
 [(mt 19 17),o1 20 (.ia 2 (.t 15) (.t 17)),o1 21 (.ld 2 true (.t 20)),o1 8 (.al 127 [.n .i64 0,.n .i64 0]),
  (mt 7 19),
  (o3 (.st 2 (.t 8) (.t 21)))]
abbrev Vd:List AO:=
 [(mt 22 1),
  (mt 23 7),o1 24 (.ia 2 (.t 22) (.t 23)),o1 25 (.ld 2 true (.t 24)),o1 9 (.al 127 [.n .i64 0,.n .i64 0]),
  (o3 (.st 2 (.t 9) (.t 25)))]
abbrev Vc:List AO:=
 [(mt 26 2),o1 27 (.ld 2 true (.t 8)),o1 28 (.ld 2 true (.t 9)),⟨some 29,none,.cl (.t 26) [.t 27,.t 28]⟩,o1 30 (.un .not (.t 29))]
abbrev Vb:List AO:=
 [o1 6 (.mv (.c (.b false)))]
abbrev Vk:AC:=
 (.seq (.reg Ve) (.seq (.reg Vd) (.seq (.reg Vc) (.cond (.t 30) (.seq (.reg Vb) .ret) .skip))))
abbrev IK:List AO:=
 [o1 31 (.bin .add (.t 17) (ci 1)),
  (mt 17 31)]
abbrev IM:AC:=
 (.seq (.reg Vf) (.seq (.cond (.t 18) .skip (.exit 0)) (.seq (.block 1 Vk) (.reg IK))))
abbrev IL:AC:=
 (.loop IM)
abbrev IJ:List AO:=
 [o1 6 (.mv (.c (.b true)))]
abbrev Vm:AF:=⟨32,(.seq (.reg Vj) (.seq (.seq (.reg Vi) (.cond (.t 14) (.seq (.reg Vh) .ret) .skip)) (.seq (.seq (.reg Vg) (.block 0 IL)) (.seq (.reg IJ) .ret)))),[.mv (.t 6)]⟩
theorem Dz:ax Tryz.prog (af Tryz.prog 171) 171=some Vm:=by kernel_rfl
/-! verifier.bounds.times-/
abbrev U8:List AO:=
 [o1 2 (.bx 130 0 (.t 0)),o1 3 (.bx 3 0 (.t 1)),o1 4 (.al 130 [.n .i64 0,.n .i64 0])]
abbrev U7:List AO:=
 [o1 6 (.mf 173 [] [.t 3]),
  (mt 5 6)]
abbrev U9:List (Nat×AO):=
 [(2,(mt 7 5)),(2,(o1 8 (.fa 0 (.t 2)))),
  (2,(mt 13 5)),(2,(o1 14 (.fa 1 (.t 2)))),(1,(o1 9 (.ld 1 false (.t 8)))),(2,(o1 10 (.bin .add (.t 9) (ci 1)))),(1,(o1 15 (.ld 1 false (.t 14)))),(0,⟨some 11,none,.mo (.mi (.t 10) (ci 281474976710657))⟩),(0,⟨some 12,none,.cl (.t 7) [.t 11]⟩),(3,⟨some 16,none,.cl (.t 13) [.t 15]⟩),(2,(o1 17 (.bd [.n .i64 0,.n .i64 0] [(0,1,(.t 12)),(1,1,(.t 16))]))),
  (3,(o3 (.st 2 (.t 4) (.t 17))))]
abbrev Va:AF:=⟨18,(.seq (.reg U8) (.seq (.reg U7) (.seq (.mix U9) .ret))),[.ld 2 true (.t 4)]⟩
theorem Dy:ax Tryz.prog (af Tryz.prog 122) 122=some Va:=by kernel_rfl
/-! verifier.bounds.times$1-/
abbrev U5:List AO:=
 [o1 3 (.mv (ci 0))]
abbrev U4:List AO:=
 [o1 4 (.ld 1 false (.t 1)),o1 5 (.bin .gtr (.t 4) (ci 0)),
  (mt 6 5),
  (o5 7 6 (.mv (.t 0))),
  (o5 8 6 (.ld 1 false (.t 1))),
  (o5 9 6 (.bin .quo (ci 281474976710657) (.t 8))),
  (o5 10 6 (.bin .gtr (.t 7) (.t 9))),o1 11 (.pick (.t 6) (.t 10) (.c (.b false)))]
abbrev U3:List AO:=
 [o1 3 (.mv (ci 281474976710657))]
abbrev U2:List AO:=
 [(mt 12 0),o1 13 (.ld 1 false (.t 1)),o1 14 (.bin .mul (.t 12) (.t 13)),⟨some 15,none,.mo (.mi (.t 14) (ci 281474976710657))⟩,
  (mt 3 15)]
abbrev U6:AF:=⟨16,(.seq (.reg U5) (.seq (.seq (.reg U4) (.cond (.t 11) (.seq (.reg U3) .ret) .skip)) (.seq (.reg U2) .ret))),[.mv (.t 3)]⟩
theorem Dx:ax Tryz.prog (af Tryz.prog 173) 173=some U6:=by kernel_rfl
/-! verifier.walker.plain-/
abbrev UJ:List AO:=
 [o1 6 (.al 130 [.n .i64 0,.n .i64 0])]
abbrev UI:List AO:=
 [(mt 15 0),o1 16 (.nc (.t 15)),o1 17 (.fa 0 (.t 16)),o1 18 (.fa 2 (.t 17)),o1 19 (.ld 1 false (.t 18)),
  (mt 20 1),o1 21 (.ia 2 (.t 19) (.t 20)),o1 22 (.ld 2 true (.t 21)),o1 7 (.al 54 [.n .i64 0,.n .u32 0]),
  (o3 (.st 2 (.t 7) (.t 22)))]
abbrev UH:List AO:=
 [o1 24 (.fa 0 (.t 7)),o1 25 (.ld 1 false (.t 24)),
  (o2 26 103 [.t 25]),
  (mt 23 26),o1 27 (.ext 0 (.t 23)),o1 28 (.ext 1 (.t 23)),o1 29 (.ext 2 (.t 23)),
  (mt 8 27),
  (mt 9 28),
  (mt 10 29)]
abbrev UG:List AO:=
 [(mt 30 0),
  (mt 31 1),
  (mt 32 2),
  (mt 33 8),
  (o2 34 88 [.t 30,.t 31,.t 32,.t 33]),
  (mt 11 34)]
abbrev UF:List AO:=
 [o1 35 (.bd [.n .i64 0,.n .i64 0] [(0,1,(ci 1))]),o1 12 (.al 130 [.n .i64 0,.n .i64 0]),
  (o3 (.st 2 (.t 12) (.t 35)))]
abbrev UE:List AO:=
 [o1 36 (.fa 0 (.t 7)),o1 37 (.ld 1 false (.t 36))]
abbrev UD:List AO:=
 [o1 71 (.bin .eql (.t 37) (ci 0)),
  (mt 70 71)]
abbrev UC:List AO:=
 [(mt 72 0),
  (mt 73 1),o1 74 (.fa 1 (.t 7)),o1 75 (.ld 1 false (.t 74)),
  (o2 76 54 [.t 75]),
  (o2 77 125 [.t 76]),o1 78 (.bs 221 3 1 [.b false,.n .i64 0,.n .i64 0] [(0,3,(.t 77))]),
  (o2 79 124 [.t 72,.t 73,.t 78])]
abbrev UB:List AO:=
 [o1 81 (.bin .eql (.t 37) (ci 1)),
  (mt 80 81)]
abbrev UK:List (Nat×AO):=
 [(2,(mt 82 0)),
  (2,(mt 83 1)),
  (2,(mt 84 0)),(2,(o1 85 (.nc (.t 84)))),(2,(o1 86 (.fa 6 (.t 85)))),(2,(o1 88 (.fa 1 (.t 7)))),(1,(o1 87 (.ld 1 false (.t 86)))),(1,(o1 89 (.ld 1 false (.t 88)))),(2,(o1 90 (.ia 2 (.t 87) (.t 89)))),(1,(o1 91 (.ld 2 true (.t 90)))),
  (3,(o2 92 125 [.t 91])),(3,(o1 93 (.bs 221 3 1 [.b false,.n .i64 0,.n .i64 0] [(0,3,(.t 92))]))),
  (3,(o2 94 124 [.t 82,.t 83,.t 93]))]
abbrev IA:List AO:=
 [o1 96 (.bin .eql (.t 37) (ci 2)),
  (mt 95 96)]
abbrev Iz:List AO:=
 [(mt 97 0),
  (mt 98 0),o1 99 (.nc (.t 98)),o1 100 (.fa 6 (.t 99)),o1 101 (.ld 1 false (.t 100)),
  (o2 102 59 [.t 101]),o1 103 (.nc (.t 97)),o1 104 (.fa 6 (.t 103)),
  (o3 (.st 1 (.t 104) (.t 102)))]
abbrev IG:List (Nat×AO):=
 [(2,(mt 105 0)),(2,(o1 106 (.nc (.t 105)))),(2,(o1 107 (.fa 6 (.t 106)))),(2,(o1 109 (.fa 1 (.t 7)))),
  (2,(mt 111 11)),(2,(o1 112 (.ia 3 (.t 111) (ci 0)))),(2,(o1 113 (.fa 1 (.t 112)))),(1,(o1 108 (.ld 1 false (.t 107)))),(1,(o1 110 (.ld 1 false (.t 109)))),(1,(o1 114 (.ld 2 true (.t 113)))),(2,(o1 115 (.ia 2 (.t 108) (.t 110)))),
  (3,(o3 (.st 2 (.t 115) (.t 114))))]
abbrev Iy:List AO:=
 [o1 117 (.bin .eql (.t 37) (ci 3)),
  (mt 116 117)]
abbrev Ix:List AO:=
 [(mt 118 0),
  (mt 119 1),
  (mt 120 0),
  (mt 121 1),
  (mt 122 11),o1 123 (.ia 3 (.t 122) (ci 0)),o1 124 (.ld 3 true (.t 123)),
  (o2 125 126 [.t 120,.t 121,.t 124]),
  (o2 126 125 [.t 125]),o1 127 (.bs 221 3 1 [.b false,.n .i64 0,.n .i64 0] [(0,3,(.t 126))]),
  (o2 128 124 [.t 118,.t 119,.t 127])]
abbrev Iw:List AO:=
 [o1 130 (.bin .eql (.t 37) (ci 4)),
  (mt 129 130)]
abbrev Iu:List AO:=
 [(mt 131 0),
  (mt 132 1),
  (mt 133 11),o1 134 (.ia 3 (.t 133) (ci 0)),o1 135 (.ld 3 true (.t 134)),
  (o2 136 126 [.t 131,.t 132,.t 135])]
abbrev It:List AO:=
 [o1 138 (.bin .eql (.t 37) (ci 5)),
  (mt 137 138)]
abbrev IE:List (Nat×AO):=
 [(2,(mt 139 0)),
  (2,(mt 140 1)),
  (2,(mt 141 11)),(2,(o1 142 (.ia 3 (.t 141) (ci 0)))),
  (2,(mt 144 11)),(2,(o1 145 (.ia 3 (.t 144) (ci 0)))),(1,(o1 143 (.ld 3 true (.t 142)))),(1,(o1 146 (.ld 3 true (.t 145)))),(3,(o1 147 (.bs 221 3 2 [.b false,.n .i64 0,.n .i64 0,.b false,.n .i64 0,.n .i64 0] [(0,3,(.t 143)),(3,3,(.t 146))]))),
  (3,(o2 148 124 [.t 139,.t 140,.t 147]))]
abbrev Ir:List AO:=
 [o1 150 (.bin .eql (.t 37) (ci 7)),
  (mt 149 150)]
abbrev IC:List (Nat×AO):=
 [(2,(mt 151 0)),
  (2,(mt 152 1)),
  (2,(mt 153 11)),(2,(o1 154 (.ia 3 (.t 153) (ci 1)))),
  (2,(mt 156 11)),(2,(o1 157 (.ia 3 (.t 156) (ci 0)))),(1,(o1 155 (.ld 3 true (.t 154)))),(1,(o1 158 (.ld 3 true (.t 157)))),(3,(o1 159 (.bs 221 3 2 [.b false,.n .i64 0,.n .i64 0,.b false,.n .i64 0,.n .i64 0] [(0,3,(.t 155)),(3,3,(.t 158))]))),
  (3,(o2 160 124 [.t 151,.t 152,.t 159]))]
abbrev Iq:List AO:=
 [o1 162 (.bin .eql (.t 37) (ci 6)),
  (mt 161 162)]
abbrev Ip:List AO:=
 [o1 163 (.bin .eql (.t 37) (ci 35)),
  (mt 161 163)]
abbrev Im:List AO:=
 [o1 165 (.bin .eql (.t 37) (ci 34)),
  (mt 164 165)]
abbrev Il:List AO:=
 [o1 166 (.fa 1 (.t 12)),
  (o3 (.st 1 (.t 166) (ci 1)))]
abbrev Ik:List AO:=
 [o1 168 (.bin .eql (.t 37) (ci 32)),
  (mt 167 168)]
abbrev Ij:List AO:=
 [(mt 169 0),
  (mt 170 1),
  (o2 171 63 []),
  (o2 172 125 [.t 171]),o1 173 (.bs 221 3 1 [.b false,.n .i64 0,.n .i64 0] [(0,3,(.t 172))]),
  (o2 174 124 [.t 169,.t 170,.t 173])]
abbrev Ii:List AO:=
 [o1 176 (.bin .eql (.t 37) (ci 26)),
  (mt 175 176)]
abbrev Ih:List AO:=
 [(mt 177 0),
  (mt 178 1),o1 179 (.bd [.n .i64 0,.n .i64 0] [(1,1,(ci 1))]),
  (o2 180 125 [.t 179]),o1 181 (.bs 221 3 1 [.b false,.n .i64 0,.n .i64 0] [(0,3,(.t 180))]),
  (o2 182 124 [.t 177,.t 178,.t 181])]
abbrev Ig:List AO:=
 [(mt 38 9),o1 39 (.bin .eql (.t 38) (.c (.s ⟨#[116]⟩)))]
abbrev Ie:List AO:=
 [(mt 40 0),
  (mt 41 1),o1 42 (.bd [.b false,.n .i64 0,.n .i64 0] [(0,1,(.c (.b true)))]),o1 43 (.bs 221 3 1 [.b false,.n .i64 0,.n .i64 0] [(0,3,(.t 42))]),
  (o2 44 124 [.t 40,.t 41,.t 43])]
abbrev IB:List (Nat×AO):=
 [(2,(o1 46 (.fa 0 (.t 7)))),(1,(o1 47 (.ld 1 false (.t 46)))),
  (2,(mt 48 11)),(2,(o1 49 (.ia 3 (.t 48) (ci 0)))),(2,(o1 50 (.fa 1 (.t 49)))),(1,(o1 51 (.ld 2 true (.t 50)))),
  (2,(mt 52 11)),(2,(o1 53 (.ia 3 (.t 52) (ci 1)))),(2,(o1 54 (.fa 1 (.t 53)))),(1,(o1 55 (.ld 2 true (.t 54))))]
abbrev H9:AT:=
 (.alt (o2 56 127 [.t 47,.t 51,.t 55]) (.alt (mt 45 56) (.alt (o1 57 (.ext 0 (.t 45))) (.alt (o1 58 (.ext 1 (.t 45))) (.alt (o1 13 (.al 127 [.n .i64 0,.n .i64 0])) (.alt (o3 (.st 2 (.t 13) (.t 57))) (.alt (mt 14 58) .fin .none) .none) .none) (.alt (o1 13 (.al 127 [.n .i64 0,.n .i64 0])) (.alt (o1 58 (.ext 1 (.t 45))) (.alt (o3 (.st 2 (.t 13) (.t 57))) (.alt (mt 14 58) .fin .none) .none) (.alt (o3 (.st 2 (.t 13) (.t 57))) (.alt (o1 58 (.ext 1 (.t 45))) (.alt (mt 14 58) .fin .none) .none) .none)) .none)) (.alt (o1 58 (.ext 1 (.t 45))) (.alt (o1 57 (.ext 0 (.t 45))) (.alt (o1 13 (.al 127 [.n .i64 0,.n .i64 0])) (.alt (o3 (.st 2 (.t 13) (.t 57))) (.alt (mt 14 58) .fin .none) .none) .none) (.alt (o1 13 (.al 127 [.n .i64 0,.n .i64 0])) (.alt (o1 57 (.ext 0 (.t 45))) (.alt (o3 (.st 2 (.t 13) (.t 57))) (.alt (mt 14 58) .fin .none) .none) .none) .none)) (.alt (o1 13 (.al 127 [.n .i64 0,.n .i64 0])) (.alt (o1 57 (.ext 0 (.t 45))) (.alt (o1 58 (.ext 1 (.t 45))) (.alt (o3 (.st 2 (.t 13) (.t 57))) (.alt (mt 14 58) .fin .none) .none) (.alt (o3 (.st 2 (.t 13) (.t 57))) (.alt (o1 58 (.ext 1 (.t 45))) (.alt (mt 14 58) .fin .none) .none) .none)) (.alt (o1 58 (.ext 1 (.t 45))) (.alt (o1 57 (.ext 0 (.t 45))) (.alt (o3 (.st 2 (.t 13) (.t 57))) (.alt (mt 14 58) .fin .none) .none) .none) .none)) .none))) (.alt (o1 13 (.al 127 [.n .i64 0,.n .i64 0])) (.alt (mt 45 56) (.alt (o1 57 (.ext 0 (.t 45))) (.alt (o1 58 (.ext 1 (.t 45))) (.alt (o3 (.st 2 (.t 13) (.t 57))) (.alt (mt 14 58) .fin .none) .none) (.alt (o3 (.st 2 (.t 13) (.t 57))) (.alt (o1 58 (.ext 1 (.t 45))) (.alt (mt 14 58) .fin .none) .none) .none)) (.alt (o1 58 (.ext 1 (.t 45))) (.alt (o1 57 (.ext 0 (.t 45))) (.alt (o3 (.st 2 (.t 13) (.t 57))) (.alt (mt 14 58) .fin .none) .none) .none) .none)) .none) .none)) (.alt (o1 13 (.al 127 [.n .i64 0,.n .i64 0])) (.alt (o2 56 127 [.t 47,.t 51,.t 55]) (.alt (mt 45 56) (.alt (o1 57 (.ext 0 (.t 45))) (.alt (o1 58 (.ext 1 (.t 45))) (.alt (o3 (.st 2 (.t 13) (.t 57))) (.alt (mt 14 58) .fin .none) .none) (.alt (o3 (.st 2 (.t 13) (.t 57))) (.alt (o1 58 (.ext 1 (.t 45))) (.alt (mt 14 58) .fin .none) .none) .none)) (.alt (o1 58 (.ext 1 (.t 45))) (.alt (o1 57 (.ext 0 (.t 45))) (.alt (o3 (.st 2 (.t 13) (.t 57))) (.alt (mt 14 58) .fin .none) .none) .none) .none)) .none) .none) .none))
abbrev Ic:List AO:=
 [(mt 59 14),o1 60 (.bin .eql (.t 59) (ci 0)),
  (mt 61 1),
  (mt 62 14),
  (o2 63 33 [.t 60,.t 61,.t 62])]
abbrev Ib:List AO:=
 [(mt 64 0),
  (mt 65 1),o1 66 (.ld 2 true (.t 13)),
  (o2 67 125 [.t 66]),o1 68 (.bs 221 3 1 [.b false,.n .i64 0,.n .i64 0] [(0,3,(.t 67))]),
  (o2 69 124 [.t 64,.t 65,.t 68])]
abbrev IH:AC:=
 (.seq (.reg UD) (.cond (.t 70) (.reg UC) (.seq (.reg UB) (.cond (.t 80) (.mix UK) (.seq (.reg IA) (.cond (.t 95) (.seq (.reg Iz) (.mix IG)) (.seq (.reg Iy) (.cond (.t 116) (.reg Ix) (.seq (.reg Iw) (.cond (.t 129) (.reg Iu) (.seq (.reg It) (.cond (.t 137) (.mix IE) (.seq (.reg Ir) (.cond (.t 149) (.mix IC) (.seq (.seq (.reg Iq) (.cond (.t 161) .skip (.reg Ip))) (.cond (.t 161) .skip (.seq (.reg Im) (.cond (.t 164) (.reg Il) (.seq (.reg Ik) (.cond (.t 167) (.reg Ij) (.seq (.reg Ii) (.cond (.t 175) (.reg Ih) (.seq (.seq (.reg Ig) (.cond (.t 39) (.seq (.reg Ie) (.exit 0)) .skip)) (.seq (.frk IB H9) (.seq (.reg Ic) (.reg Ib))))))))))))))))))))))))))
abbrev Ia:List AO:=
 [o1 183 (.ld 2 true (.t 12)),
  (o3 (.st 2 (.t 6) (.t 183)))]
abbrev UL:AF:=⟨184,(.seq (.reg UJ) (.seq (.reg UI) (.seq (.reg UH) (.seq (.reg UG) (.seq (.reg UF) (.seq (.seq (.reg UE) (.block 0 IH)) (.seq (.reg Ia) .ret))))))),[.ld 2 true (.t 6)]⟩
theorem Dw:ax Tryz.prog (af Tryz.prog 89) 89=some UL:=by kernel_rfl
/-! instruction.Effect-/
abbrev Uy:List AO:=
 [o1 2 (.mv (.c (.s ⟨#[]⟩))),o1 3 (.mv (.c (.s ⟨#[]⟩))),o1 4 (.mv (.c (.b false)))]
abbrev Ux:List AO:=
 [(mt 8 0),
  (o2 9 70 [.t 8]),
  (mt 7 9),o1 10 (.ext 0 (.t 7)),o1 11 (.ext 1 (.t 7)),o1 5 (.al 146 [.s ⟨#[]⟩,.s ⟨#[]⟩,.s ⟨#[]⟩,.n .u64 0,.b false]),
  (o3 (.st 5 (.t 5) (.t 10))),
  (mt 6 11)]
abbrev Uz:List (Nat×AO):=
 [(2,(o1 12 (.fa 1 (.t 5)))),(2,(o1 14 (.fa 2 (.t 5)))),
  (2,(mt 16 6)),(1,(o1 13 (.ld 1 false (.t 12)))),
  (2,(mt 2 13)),(1,(o1 15 (.ld 1 false (.t 14)))),
  (2,(mt 3 15)),
  (2,(mt 4 16))]
abbrev UA:AF:=⟨17,(.seq (.reg Uy) (.seq (.reg Ux) (.seq (.mix Uz) .ret))),[.mv (.t 2),.mv (.t 3),.mv (.t 4)]⟩
theorem Dv:ax Tryz.prog (af Tryz.prog 103) 103=some UA:=by kernel_rfl
/-! verifier.numeric-/
abbrev Uv:List AO:=
 [o1 1 (.bx 127 0 (.t 0)),o1 2 (.al 221 [.b false,.n .i64 0,.n .i64 0])]
abbrev Uu:List AO:=
 [o1 3 (.ld 2 true (.t 1)),o1 4 (.bd [.b false,.n .i64 0,.n .i64 0] [(1,2,(.t 3))]),
  (o3 (.st 3 (.t 2) (.t 4)))]
abbrev Uw:AF:=⟨5,(.seq (.reg Uv) (.seq (.reg Uu) .ret)),[.ld 3 true (.t 2)]⟩
theorem Du:ax Tryz.prog (af Tryz.prog 125) 125=some Uw:=by kernel_rfl
/-! verifier.walker.push-/
abbrev Ur:List AO:=
 [(mt 6 0),
  (mt 7 0),o1 8 (.nc (.t 7)),o1 9 (.fa 7 (.t 8)),o1 10 (.ld 1 false (.t 9)),
  (mt 11 2),o1 12 (.app 221 3 24 (.t 10) (.t 11)),o1 13 (.nc (.t 6)),o1 14 (.fa 7 (.t 13)),
  (o3 (.st 1 (.t 14) (.t 12)))]
abbrev Uq:List AO:=
 [(mt 15 0),o1 16 (.nc (.t 15)),o1 17 (.fa 7 (.t 16)),o1 18 (.ld 1 false (.t 17)),o1 19 (.len (.t 18)),o1 20 (.bin .leq (.t 19) (ci 32)),
  (mt 21 1),
  (o2 22 33 [.t 20,.t 21,(ci 14)])]
abbrev Us:List (Nat×AO):=
 [(2,(mt 23 0)),
  (2,(mt 24 0)),(2,(o1 25 (.nc (.t 24)))),(2,(o1 26 (.fa 8 (.t 25)))),
  (2,(mt 28 0)),(2,(o1 29 (.nc (.t 28)))),(2,(o1 30 (.fa 7 (.t 29)))),(1,(o1 27 (.ld 1 false (.t 26)))),(1,(o1 31 (.ld 1 false (.t 30)))),(2,(o1 32 (.len (.t 31)))),(3,⟨some 33,none,.mo (.mx (.t 27) (.t 32))⟩),(2,(o1 34 (.nc (.t 23)))),(2,(o1 35 (.fa 8 (.t 34)))),
  (3,(o3 (.st 1 (.t 35) (.t 33))))]
abbrev Ut:AF:=⟨36,(.seq (.reg Ur) (.seq (.reg Uq) (.mix Us))),[]⟩
theorem Dt:ax Tryz.prog (af Tryz.prog 124) 124=some Ut:=by kernel_rfl
/-! verifier.walker.element-/
abbrev Un:List AO:=
 [o1 5 (.bx 221 0 (.t 2)),o1 6 (.al 127 [.n .i64 0,.n .i64 0])]
abbrev Uo:List (Nat×AO):=
 [(2,(mt 8 0)),(2,(o1 9 (.nc (.t 8)))),(2,(o1 10 (.fa 0 (.t 9)))),(2,(o1 11 (.fa 0 (.t 10)))),
  (2,(mt 13 0)),(2,(o1 14 (.nc (.t 13)))),(2,(o1 15 (.fa 0 (.t 14)))),(2,(o1 16 (.fa 2 (.t 15)))),
  (2,(mt 18 1)),(1,(o1 12 (.ld 1 false (.t 11)))),(1,(o1 17 (.ld 1 false (.t 16)))),(2,(o1 19 (.ia 2 (.t 17) (.t 18)))),(2,(o1 20 (.fa 1 (.t 19)))),(1,(o1 21 (.ld 1 false (.t 20)))),(2,(o1 22 (.ia 2 (.t 12) (.t 21)))),(1,(o1 23 (.ld 2 true (.t 22)))),(0,(o1 7 (.al 68 [.b false,.n .i64 0]))),
  (3,(o3 (.st 2 (.t 7) (.t 23))))]
abbrev Um:List AO:=
 [o1 24 (.fa 1 (.t 5)),o1 25 (.fa 1 (.t 24)),o1 26 (.ld 1 false (.t 25)),o1 27 (.fa 1 (.t 7)),o1 28 (.ld 1 false (.t 27)),o1 29 (.bin .lss (.t 26) (.t 28)),
  (mt 30 1),
  (o2 31 33 [.t 29,.t 30,(ci 16)])]
abbrev Ul:List AO:=
 [o1 32 (.fa 0 (.t 7)),o1 33 (.ld 1 false (.t 32))]
abbrev Uk:List AO:=
 [(o2 34 63 []),
  (o3 (.st 2 (.t 6) (.t 34)))]
abbrev Uj:List AO:=
 [o1 35 (.bd [.n .i64 0,.n .i64 0] [(1,1,(ci 255))]),
  (o3 (.st 2 (.t 6) (.t 35)))]
abbrev Up:AF:=⟨36,(.seq (.reg Un) (.seq (.mix Uo) (.seq (.reg Um) (.seq (.seq (.reg Ul) (.cond (.t 33) (.seq (.reg Uk) .ret) .skip)) (.seq (.reg Uj) .ret))))),[.ld 2 true (.t 6)]⟩
theorem Ds:ax Tryz.prog (af Tryz.prog 126) 126=some Up:=by kernel_rfl
/-! interval.Apply-/
abbrev Uf:List AO:=
 [o1 4 (.bx 127 0 (.t 1)),o1 5 (.bx 127 0 (.t 2)),o1 6 (.al 127 [.n .i64 0,.n .i64 0]),o1 7 (.mv (ci 0))]
abbrev Ue:List AO:=
 [o1 15 (.ld 2 true (.t 4)),o1 16 (.ld 2 true (.t 5)),o1 17 (.bs 127 2 2 [.n .i64 0,.n .i64 0,.n .i64 0,.n .i64 0] [(0,2,(.t 15)),(2,2,(.t 16))]),o1 18 (.len (.t 17)),o1 19 (.mv (ci 0))]
abbrev Ud:List AO:=
 [o1 20 (.bin .lss (.t 19) (.t 18))]
abbrev Uc:List AO:=
 [o1 21 (.ia 2 (.t 17) (.t 19)),o1 22 (.ld 2 true (.t 21)),o1 9 (.al 127 [.n .i64 0,.n .i64 0]),
  (o3 (.st 2 (.t 9) (.t 22)))]
abbrev Ub:List AO:=
 [o1 23 (.ld 2 true (.t 9)),
  (o2 24 128 [.t 23]),
  (mt 10 24)]
abbrev Ua:List AO:=
 [(mt 25 10),o1 26 (.bin .neq (.t 25) (ci 0))]
abbrev T9:List AO:=
 [o1 27 (.bd [.n .i64 0,.n .i64 0] []),
  (mt 28 10),
  (o3 (.st 2 (.t 6) (.t 27))),
  (mt 7 28)]
abbrev Ug:AC:=
 (.seq (.reg Uc) (.seq (.reg Ub) (.seq (.reg Ua) (.cond (.t 26) (.seq (.reg T9) .ret) .skip))))
abbrev T8:List AO:=
 [o1 29 (.bin .add (.t 19) (ci 1)),
  (mt 19 29)]
abbrev Uh:AC:=
 (.seq (.reg Ud) (.seq (.cond (.t 20) .skip (.exit 0)) (.seq (.block 1 Ug) (.reg T8))))
abbrev H8:AC:=
 (.loop Uh)
abbrev H6:List AO:=
 [(o2 31 174 []),
  (mt 32 0),⟨some 33,none,.mo (.lk .f0 true (.t 31) (.t 32))⟩,
  (mt 30 33),o1 34 (.ext 0 (.t 30)),o1 35 (.ext 1 (.t 30)),
  (mt 11 34),
  (mt 12 35)]
abbrev H5:List AO:=
 [(mt 37 12),o1 38 (.un .not (.t 37)),
  (mt 39 38),
  (o5 40 39 (.mv (.t 0))),
  (o5 41 39 (.bin .lss (.t 40) (ci 21))),
  (o5 42 39 (.mv (.t 41))),
  (o4 43 42 (.mv (.t 0))),
  (o4 44 42 (.bin .gtr (.t 43) (ci 26))),
  (o5 45 39 (.pick (.t 42) (.c (.b true)) (.t 44))),o1 46 (.pick (.t 39) (.t 45) (.c (.b false))),
  (mt 36 46)]
abbrev HZ:List AO:=
 [o1 47 (.bd [.n .i64 0,.n .i64 0] []),
  (o3 (.st 2 (.t 6) (.t 47))),o1 7 (.mv (ci 1))]
abbrev HY:List AO:=
 [(mt 49 12),o1 50 (.un .not (.t 49)),
  (mt 48 50)]
abbrev HX:List AO:=
 [o1 51 (.bd [.n .i64 0,.n .i64 0] [(1,1,(ci 1))]),
  (o3 (.st 2 (.t 6) (.t 51))),o1 7 (.mv (ci 0))]
abbrev HW:List AO:=
 [o1 53 (.fa 0 (.t 5)),o1 54 (.ld 1 false (.t 53)),o1 55 (.bin .eql (.t 54) (ci 0)),
  (mt 56 55),
  (o5 57 56 (.mv (.t 0))),
  (o5 58 56 (.bin .eql (.t 57) (ci 11))),
  (o5 59 56 (.mv (.t 58))),
  (o4 60 59 (.mv (.t 0))),
  (o4 61 59 (.bin .eql (.t 60) (ci 12))),
  (o5 62 56 (.pick (.t 59) (.c (.b true)) (.t 61))),o1 63 (.pick (.t 56) (.t 62) (.c (.b false))),
  (mt 52 63)]
abbrev HV:List AO:=
 [o1 64 (.bd [.n .i64 0,.n .i64 0] []),
  (o3 (.st 2 (.t 6) (.t 64))),o1 7 (.mv (ci 17))]
abbrev HT:List AO:=
 [o1 66 (.fa 0 (.t 4)),o1 67 (.ld 1 false (.t 66)),o1 68 (.fa 1 (.t 4)),o1 69 (.ld 1 false (.t 68)),o1 70 (.bin .eql (.t 67) (.t 69)),
  (mt 71 70),
  (o5 72 71 (.fa 0 (.t 5))),
  (o5 73 71 (.ld 1 false (.t 72))),
  (o5 74 71 (.fa 1 (.t 5))),
  (o5 75 71 (.ld 1 false (.t 74))),
  (o5 76 71 (.bin .eql (.t 73) (.t 75))),o1 77 (.pick (.t 71) (.t 76) (.c (.b false))),
  (mt 65 77)]
abbrev HS:List AO:=
 [(mt 79 0),o1 80 (.fa 0 (.t 4)),o1 81 (.ld 1 false (.t 80)),o1 82 (.cvi .u32 (.t 81)),o1 83 (.fa 0 (.t 5)),o1 84 (.ld 1 false (.t 83)),o1 85 (.cvi .u32 (.t 84)),
  (o2 86 152 [.t 79,.t 82,.t 85]),
  (mt 78 86),o1 87 (.ext 0 (.t 78)),o1 88 (.ext 1 (.t 78)),
  (mt 13 87),
  (mt 14 88)]
abbrev HQ:List AO:=
 [(mt 89 13),
  (o2 90 54 [.t 89]),
  (mt 91 14),
  (o3 (.st 2 (.t 6) (.t 90))),
  (mt 7 91)]
abbrev H7:AC:=
 (.seq (.reg H5) (.cond (.t 36) (.seq (.reg HZ) .ret) (.seq (.reg HY) (.cond (.t 48) (.seq (.reg HX) .ret) (.seq (.reg HW) (.cond (.t 52) (.seq (.reg HV) .ret) (.seq (.reg HT) (.cond (.t 65) (.seq (.reg HS) (.seq (.reg HQ) .ret)) .skip))))))))
abbrev HP:List AO:=
 [(mt 92 11),o1 93 (.fa 0 (.t 4)),o1 94 (.ld 1 false (.t 93)),o1 95 (.fa 1 (.t 4)),o1 96 (.ld 1 false (.t 95)),o1 97 (.fa 0 (.t 5)),o1 98 (.ld 1 false (.t 97)),o1 99 (.fa 1 (.t 5)),o1 100 (.ld 1 false (.t 99)),o1 101 (.bd [.n .i64 0,.n .i64 0,.n .i64 0,.n .i64 0] [(0,1,(.t 94)),(1,1,(.t 96)),(2,1,(.t 98)),(3,1,(.t 100))]),⟨some 102,none,.cl (.t 92) [.t 101]⟩,
  (o3 (.st 2 (.t 6) (.t 102))),o1 7 (.mv (ci 0))]
abbrev Ui:AF:=⟨103,(.seq (.reg Uf) (.seq (.seq (.reg Ue) (.block 0 H8)) (.seq (.reg H6) (.seq (.block 2 H7) (.seq (.reg HP) .ret))))),[.ld 2 true (.t 6),.mv (.t 7)]⟩
theorem Dr:ax Tryz.prog (af Tryz.prog 127) 127=some Ui:=by kernel_rfl
/-! interval.rules-/
abbrev T6:List AO:=
 [o1 0 (.mv (.c (.cv (.map none))))]
abbrev T5:List AO:=
 [⟨some 1,none,.mo (.mm)⟩,⟨none,none,.mo (.mu (.t 1) (ci 8) (.c (.f 187 [] [])))⟩,⟨none,none,.mo (.mu (.t 1) (ci 9) (.c (.f 188 [] [])))⟩,⟨none,none,.mo (.mu (.t 1) (ci 10) (.c (.f 189 [] [])))⟩,⟨none,none,.mo (.mu (.t 1) (ci 11) (.c (.f 190 [] [])))⟩,⟨none,none,.mo (.mu (.t 1) (ci 12) (.c (.f 191 [] [])))⟩,⟨none,none,.mo (.mu (.t 1) (ci 13) (.c (.f 192 [] [])))⟩,⟨none,none,.mo (.mu (.t 1) (ci 14) (.c (.f 193 [] [])))⟩,⟨none,none,.mo (.mu (.t 1) (ci 15) (.c (.f 194 [] [])))⟩,⟨none,none,.mo (.mu (.t 1) (ci 16) (.c (.f 195 [] [])))⟩,⟨none,none,.mo (.mu (.t 1) (ci 17) (.c (.f 196 [] [])))⟩,⟨none,none,.mo (.mu (.t 1) (ci 18) (.c (.f 197 [] [])))⟩,⟨none,none,.mo (.mu (.t 1) (ci 19) (.c (.f 198 [] [])))⟩,⟨none,none,.mo (.mu (.t 1) (ci 20) (.c (.f 199 [] [])))⟩,
  (mt 2 1),
  (mt 0 2)]
abbrev T7:AF:=⟨3,(.seq (.reg T6) (.seq (.reg T5) .ret)),[.mv (.t 0)]⟩
theorem Dq:ax Tryz.prog (af Tryz.prog 174) 174=some T7:=by kernel_rfl
/-! instruction.Apply-/
abbrev T2:List AO:=
 [o1 6 (.mv (.c (.n .u32 0))),o1 7 (.mv (ci 0))]
abbrev T1:List AO:=
 [(o2 11 179 []),
  (mt 12 0),⟨some 13,none,.mo (.lk .f0 true (.t 11) (.t 12))⟩,
  (mt 10 13),o1 14 (.ext 0 (.t 10)),o1 15 (.ext 1 (.t 10)),
  (mt 8 14),
  (mt 9 15)]
abbrev TZ:List AO:=
 [(mt 17 9),o1 18 (.un .not (.t 17)),
  (mt 16 18)]
abbrev TY:List AO:=
 [o1 6 (.mv (.c (.n .u32 0))),o1 7 (.mv (ci 1))]
abbrev TX:List AO:=
 [(mt 20 2),o1 21 (.bin .eql (.t 20) (.c (.n .u32 0))),
  (mt 22 21),
  (o5 23 22 (.mv (.t 0))),
  (o5 24 22 (.bin .eql (.t 23) (ci 11))),
  (o5 25 22 (.mv (.t 24))),
  (o4 26 25 (.mv (.t 0))),
  (o4 27 25 (.bin .eql (.t 26) (ci 12))),
  (o5 28 22 (.pick (.t 25) (.c (.b true)) (.t 27))),o1 29 (.pick (.t 22) (.t 28) (.c (.b false))),
  (mt 19 29)]
abbrev TW:List AO:=
 [o1 6 (.mv (.c (.n .u32 0))),o1 7 (.mv (ci 17))]
abbrev T3:AC:=
 (.seq (.reg TZ) (.cond (.t 16) (.seq (.reg TY) .ret) (.seq (.reg TX) (.cond (.t 19) (.seq (.reg TW) .ret) .skip))))
abbrev TV:List AO:=
 [(mt 30 8),
  (mt 31 1),
  (mt 32 2),⟨some 33,none,.cl (.t 30) [.t 31,.t 32]⟩,
  (mt 6 33),o1 7 (.mv (ci 0))]
abbrev T4:AF:=⟨34,(.seq (.reg T2) (.seq (.reg T1) (.seq (.block 0 T3) (.seq (.reg TV) .ret)))),[.mv (.t 6),.mv (.t 7)]⟩
theorem Dp:ax Tryz.prog (af Tryz.prog 152) 152=some T4:=by kernel_rfl
/-! instruction.combinations-/
abbrev TT:List AO:=
 [o1 0 (.mv (.c (.cv (.map none))))]
abbrev TS:List AO:=
 [⟨some 1,none,.mo (.mm)⟩,⟨none,none,.mo (.mu (.t 1) (ci 8) (.c (.f 202 [] [])))⟩,⟨none,none,.mo (.mu (.t 1) (ci 9) (.c (.f 203 [] [])))⟩,⟨none,none,.mo (.mu (.t 1) (ci 10) (.c (.f 204 [] [])))⟩,⟨none,none,.mo (.mu (.t 1) (ci 11) (.c (.f 205 [] [])))⟩,⟨none,none,.mo (.mu (.t 1) (ci 12) (.c (.f 206 [] [])))⟩,⟨none,none,.mo (.mu (.t 1) (ci 13) (.c (.f 207 [] [])))⟩,⟨none,none,.mo (.mu (.t 1) (ci 14) (.c (.f 208 [] [])))⟩,⟨none,none,.mo (.mu (.t 1) (ci 15) (.c (.f 209 [] [])))⟩,⟨none,none,.mo (.mu (.t 1) (ci 16) (.c (.f 210 [] [])))⟩,⟨none,none,.mo (.mu (.t 1) (ci 17) (.c (.f 211 [] [])))⟩,⟨none,none,.mo (.mu (.t 1) (ci 18) (.c (.f 212 [] [])))⟩,⟨none,none,.mo (.mu (.t 1) (ci 19) (.c (.f 213 [] [])))⟩,⟨none,none,.mo (.mu (.t 1) (ci 20) (.c (.f 214 [] [])))⟩,⟨none,none,.mo (.mu (.t 1) (ci 21) (.c (.f 215 [] [])))⟩,⟨none,none,.mo (.mu (.t 1) (ci 22) (.c (.f 216 [] [])))⟩,⟨none,none,.mo (.mu (.t 1) (ci 23) (.c (.f 217 [] [])))⟩,⟨none,none,.mo (.mu (.t 1) (ci 24) (.c (.f 218 [] [])))⟩,⟨none,none,.mo (.mu (.t 1) (ci 25) (.c (.f 219 [] [])))⟩,⟨none,none,.mo (.mu (.t 1) (ci 26) (.c (.f 220 [] [])))⟩,
  (mt 2 1),
  (mt 0 2)]
abbrev TU:AF:=⟨3,(.seq (.reg TT) (.seq (.reg TS) .ret)),[.mv (.t 0)]⟩
theorem Dn:ax Tryz.prog (af Tryz.prog 179) 179=some TU:=by kernel_rfl
/-! compactorlaw21.CostMemory-/
/-! compactorlaw21.CostCompares-/
/-! compactorlaw21.CostOrders-/
/-! compactorlaw21.CostBounds-/
/-! compactorref15.Few-/
abbrev RC:List AO:=
 [o1 1 (.bx 25 0 (.t 0)),o1 2 (.mv (.c (.b false)))]
abbrev RB:List AO:=
 [o1 4 (.fa 0 (.t 1)),o1 5 (.ld 1 false (.t 4)),o1 6 (.len (.t 5)),o1 7 (.bin .gtr (.t 6) (ci 20)),
  (mt 8 7),
  (o4 9 8 (.fa 2 (.t 1))),
  (o4 10 8 (.ld 1 false (.t 9))),
  (o4 11 8 (.len (.t 10))),
  (o4 12 8 (.bin .gtr (.t 11) (ci 200))),o1 13 (.pick (.t 8) (.c (.b true)) (.t 12)),
  (mt 14 13),
  (o4 15 14 (.fa 2 (.t 1))),
  (o4 16 14 (.ld 1 false (.t 15))),⟨some 17,some (14,false),.cl (.c (.f 19 [] [])) [.t 16]⟩,
  (o4 18 14 (.un .not (.t 17))),o1 19 (.pick (.t 14) (.c (.b true)) (.t 18))]
abbrev RA:List AO:=
 [o1 2 (.mv (.c (.b false)))]
abbrev Rz:List AO:=
 [o1 3 (.mv (ci 0))]
abbrev Ry:List AO:=
 [(mt 20 3),o1 21 (.fa 0 (.t 1)),o1 22 (.ld 1 false (.t 21)),o1 23 (.len (.t 22)),o1 24 (.bin .lss (.t 20) (.t 23))]
abbrev Rx:List AO:=
 [o1 27 (.fa 0 (.t 1)),o1 28 (.ld 1 false (.t 27)),
  (mt 29 3),o1 30 (.ia 2 (.t 28) (.t 29)),o1 31 (.fa 1 (.t 30)),o1 32 (.ld 1 false (.t 31)),o1 33 (.bin .gtr (.t 32) (ci 300)),
  (mt 34 33),
  (o5 35 34 (.fa 0 (.t 1))),
  (o5 36 34 (.ld 1 false (.t 35))),
  (o5 37 34 (.mv (.t 3))),
  (o5 38 34 (.ia 2 (.t 36) (.t 37))),
  (o5 39 34 (.fa 1 (.t 38))),
  (o5 40 34 (.ld 1 false (.t 39))),
  (o5 41 34 (.bin .leq (.t 40) (ci 65536))),o1 42 (.pick (.t 34) (.t 41) (.c (.b false)))]
abbrev Rv:List AO:=
 [o1 2 (.mv (.c (.b false)))]
abbrev RD:AC:=
 (.seq (.reg Rx) (.cond (.t 42) (.seq (.reg Rv) .ret) .skip))
abbrev Ru:List AO:=
 [(mt 25 3),o1 26 (.bin .add (.t 25) (ci 1)),
  (mt 3 26)]
abbrev RE:AC:=
 (.seq (.seq (.reg Ry) (.cond (.t 24) .skip (.exit 0))) (.seq (.block 1 RD) (.reg Ru)))
abbrev GX:AC:=
 (.loop RE)
abbrev GV:List AO:=
 [o1 2 (.mv (.c (.b true)))]
abbrev RF:AF:=⟨43,(.seq (.reg RC) (.seq (.seq (.reg RB) (.cond (.t 19) (.seq (.reg RA) .ret) .skip)) (.seq (.seq (.reg Rz) (.block 0 GX)) (.seq (.reg GV) .ret)))),[.mv (.t 2)]⟩
theorem Dc:ax Tryz.prog (af Tryz.prog 8) 8=some RF:=by kernel_rfl
/-! compactorref21.Memory-/
abbrev Rr:List AO:=
 [o1 1 (.bx 25 0 (.t 0)),o1 2 (.mv (ci 0)),o1 3 (.mv (ci 0))]
abbrev Rq:List AO:=
 [o1 7 (.ld 3 true (.t 1)),
  (o2 8 48 [.t 7]),
  (mt 4 8)]
abbrev Rp:List AO:=
 [(mt 9 4),o1 10 (.bin .neq (.t 9) (ci 0))]
abbrev Ro:List AO:=
 [(mt 11 4),o1 2 (.mv (ci 0)),
  (mt 3 11)]
abbrev Rn:List AO:=
 [o1 12 (.fa 1 (.t 1)),o1 13 (.ld 1 false (.t 12)),o1 14 (.bin .mul (ci 4) (.t 13)),o1 15 (.bin .add (.t 14) (ci 128)),o1 16 (.bin .add (.t 15) (ci 64)),
  (mt 5 16)]
abbrev Rm:List AO:=
 [o1 6 (.mv (ci 0))]
abbrev Rl:List AO:=
 [(mt 17 6),o1 18 (.fa 0 (.t 1)),o1 19 (.ld 1 false (.t 18)),o1 20 (.len (.t 19)),o1 21 (.bin .lss (.t 17) (.t 20))]
abbrev Rk:List AO:=
 [o1 24 (.fa 0 (.t 1)),o1 25 (.ld 1 false (.t 24)),
  (mt 26 6),o1 27 (.ia 2 (.t 25) (.t 26)),o1 28 (.fa 0 (.t 27)),o1 29 (.ld 1 false (.t 28))]
abbrev Rj:List AO:=
 [(mt 30 5),o1 31 (.fa 0 (.t 1)),o1 32 (.ld 1 false (.t 31)),
  (mt 33 6),o1 34 (.ia 2 (.t 32) (.t 33)),o1 35 (.fa 1 (.t 34)),o1 36 (.ld 1 false (.t 35)),o1 37 (.bin .mul (ci 4) (.t 36)),o1 38 (.bin .add (.t 30) (.t 37)),
  (mt 5 38)]
abbrev Ri:List AO:=
 [(mt 39 5),o1 40 (.fa 0 (.t 1)),o1 41 (.ld 1 false (.t 40)),
  (mt 42 6),o1 43 (.ia 2 (.t 41) (.t 42)),o1 44 (.fa 1 (.t 43)),o1 45 (.ld 1 false (.t 44)),o1 46 (.bin .add (.t 39) (.t 45)),
  (mt 5 46)]
abbrev GR:AC:=
 (.seq (.reg Rk) (.cond (.t 29) (.reg Rj) (.reg Ri)))
abbrev GP:List AO:=
 [(mt 22 6),o1 23 (.bin .add (.t 22) (ci 1)),
  (mt 6 23)]
abbrev GU:AC:=
 (.seq (.seq (.reg Rl) (.cond (.t 21) .skip (.exit 0))) (.seq (.block 1 GR) (.reg GP)))
abbrev GQ:AC:=
 (.loop GU)
abbrev GO:List AO:=
 [(mt 47 5),
  (mt 2 47),o1 3 (.mv (ci 0))]
abbrev Rt:AF:=⟨48,(.seq (.reg Rr) (.seq (.seq (.reg Rq) (.seq (.reg Rp) (.cond (.t 10) (.seq (.reg Ro) .ret) .skip))) (.seq (.reg Rn) (.seq (.seq (.reg Rm) (.block 0 GQ)) (.seq (.reg GO) .ret))))),[.mv (.t 2),.mv (.t 3)]⟩
theorem Rs:ax Tryz.prog (af Tryz.prog 26) 26=some Rt:=by kernel_rfl
/-! compactorref21.Add-/
/-! compactorref21.Fits-/
/-! compactorlaw21.few-/
/-! compactorref21.Steps-/
/-! cost.Emits-/
abbrev Rg:List AO:=
 [o1 2 (.bx 25 0 (.t 0)),o1 3 (.bx 38 0 (.t 1)),o1 4 (.mv (ci 0)),o1 5 (.mv (ci 0))]
abbrev Rf:List AO:=
 [o1 10 (.ld 3 true (.t 2)),o1 11 (.ld 4 true (.t 3)),
  (o2 12 34 [.t 10,.t 11]),
  (mt 9 12),o1 13 (.ext 0 (.t 9)),o1 14 (.ext 1 (.t 9)),o1 15 (.ext 2 (.t 9)),o1 6 (.al 88 [.sl0,.cv (.map none)]),
  (o3 (.st 2 (.t 6) (.t 13))),
  (mt 7 14),
  (mt 8 15)]
abbrev Re:List AO:=
 [(mt 16 8),o1 17 (.bin .neq (.t 16) (ci 0))]
abbrev Rd:List AO:=
 [(mt 18 8),o1 4 (.mv (ci 0)),
  (mt 5 18)]
abbrev Rc:List AO:=
 [o1 19 (.ld 2 true (.t 6)),
  (mt 20 7),o1 21 (.ld 2 true (.t 6)),o1 22 (.mf 37 [.t 21] []),
  (o2 23 35 [.t 19,.t 20,.t 22,(ci 0)]),
  (o2 24 23 [.t 23]),o1 25 (.ext 0 (.t 24)),o1 26 (.ext 1 (.t 24)),
  (mt 4 25),
  (mt 5 26)]
abbrev Rh:AF:=⟨27,(.seq (.reg Rg) (.seq (.reg Rf) (.seq (.seq (.reg Re) (.cond (.t 17) (.seq (.reg Rd) .ret) .skip)) (.seq (.reg Rc) .ret)))),[.mv (.t 4),.mv (.t 5)]⟩
theorem Db:ax Tryz.prog (af Tryz.prog 14) 14=some Rh:=by kernel_rfl
/-! compactorref21.Emits-/
/-! compactorref15.Shallow-/
abbrev Ra:List AO:=
 [o1 2 (.mv (.c (.b false)))]
abbrev Q9:List AO:=
 [o1 3 (.mv (.c .sl0))]
abbrev Q8:List AO:=
 [o1 4 (.mv (ci 0))]
abbrev Q7:List AO:=
 [o1 5 (.mv (ci 0))]
abbrev Q6:List AO:=
 [(mt 7 5),
  (mt 8 0),o1 9 (.len (.t 8)),o1 10 (.bin .lss (.t 7) (.t 9)),
  (mt 11 10),
  (o5 12 11 (.mv (.t 4))),
  (o5 13 11 (.bin .leq (.t 12) (ci 3))),o1 14 (.pick (.t 11) (.t 13) (.c (.b false)))]
abbrev Q5:List AO:=
 [(mt 17 0),
  (mt 18 5),o1 19 (.ia 2 (.t 17) (.t 18)),o1 20 (.fa 0 (.t 19)),o1 21 (.ld 1 false (.t 20))]
abbrev Q4:List AO:=
 [o1 23 (.bin .eql (.t 21) (ci 29)),
  (mt 22 23)]
abbrev Q3:List AO:=
 [(mt 24 3),o1 25 (.bs 4 1 1 [.b false] [(0,1,(.c (.b true)))]),o1 26 (.app 4 1 1 (.t 24) (.t 25)),
  (mt 27 4),o1 28 (.bin .add (.t 27) (ci 1)),
  (mt 3 26),
  (mt 4 28)]
abbrev Q2:List AO:=
 [o1 30 (.bin .eql (.t 21) (ci 27)),
  (mt 29 30)]
abbrev Q0:List AO:=
 [(mt 31 3),o1 32 (.bs 4 1 1 [.b false] [(0,1,(.c (.b false)))]),o1 33 (.app 4 1 1 (.t 31) (.t 32)),
  (mt 3 33)]
abbrev GJ:List AO:=
 [o1 35 (.bin .eql (.t 21) (ci 31)),
  (mt 34 35)]
abbrev GI:List AO:=
 [(mt 36 3),o1 37 (.len (.t 36)),o1 38 (.bin .sub (.t 37) (ci 1)),
  (mt 6 38)]
abbrev GH:List AO:=
 [(mt 39 6),o1 40 (.bin .geq (.t 39) (ci 0))]
abbrev GG:List AO:=
 [(mt 41 3),
  (mt 42 6),o1 43 (.ia 1 (.t 41) (.t 42)),o1 44 (.ld 1 false (.t 43))]
abbrev GF:List AO:=
 [(mt 45 4),o1 46 (.bin .sub (.t 45) (ci 1)),
  (mt 4 46)]
abbrev GD:List AO:=
 [(mt 47 3),
  (mt 48 6),o1 49 (.sl 1 (.t 47) none (some (.t 48))),
  (mt 3 49)]
abbrev GM:AC:=
 (.seq (.reg Q4) (.cond (.t 22) (.reg Q3) (.seq (.reg Q2) (.cond (.t 29) (.reg Q0) (.seq (.reg GJ) (.cond (.t 34) (.seq (.reg GI) (.seq (.reg GH) (.cond (.t 40) (.seq (.seq (.reg GG) (.cond (.t 44) (.reg GF) .skip)) (.reg GD)) .skip))) .skip))))))
abbrev GL:AC:=
 (.seq (.reg Q5) (.block 2 GM))
abbrev GC:List AO:=
 [(mt 15 5),o1 16 (.bin .add (.t 15) (ci 1)),
  (mt 5 16)]
abbrev GN:AC:=
 (.seq (.seq (.reg Q6) (.cond (.t 14) .skip (.exit 0))) (.seq (.block 1 GL) (.reg GC)))
abbrev GK:AC:=
 (.loop GN)
abbrev GB:List AO:=
 [(mt 50 4),o1 51 (.bin .leq (.t 50) (ci 3)),
  (mt 2 51)]
abbrev Rb:AF:=⟨52,(.seq (.reg Ra) (.seq (.reg Q9) (.seq (.reg Q8) (.seq (.seq (.reg Q7) (.block 0 GK)) (.seq (.reg GB) .ret))))),[.mv (.t 2)]⟩
theorem Da:ax Tryz.prog (af Tryz.prog 19) 19=some Rb:=by kernel_rfl
/-! compactorref15.Form-/
abbrev QW:List AO:=
 [o1 1 (.bx 25 0 (.t 0)),o1 2 (.mv (ci 0))]
abbrev QV:List AO:=
 [o1 7 (.fa 0 (.t 1)),o1 8 (.ld 1 false (.t 7)),o1 9 (.len (.t 8)),o1 10 (.bin .gtr (.t 9) (ci 8))]
abbrev QU:List AO:=
 [o1 2 (.mv (ci 6))]
abbrev QT:List AO:=
 [o1 3 (.mv (ci 0))]
abbrev QS:List AO:=
 [o1 4 (.mv (ci 0))]
abbrev QR:List AO:=
 [(mt 11 4),o1 12 (.fa 0 (.t 1)),o1 13 (.ld 1 false (.t 12)),o1 14 (.len (.t 13)),o1 15 (.bin .lss (.t 11) (.t 14))]
abbrev QQ:List AO:=
 [o1 18 (.fa 0 (.t 1)),o1 19 (.ld 1 false (.t 18)),
  (mt 20 4),o1 21 (.ia 2 (.t 19) (.t 20)),o1 22 (.fa 1 (.t 21)),o1 23 (.ld 1 false (.t 22)),o1 24 (.bin .lss (.t 23) (ci 1)),
  (mt 25 24),
  (o4 26 25 (.fa 0 (.t 1))),
  (o4 27 25 (.ld 1 false (.t 26))),
  (o4 28 25 (.mv (.t 4))),
  (o4 29 25 (.ia 2 (.t 27) (.t 28))),
  (o4 30 25 (.fa 1 (.t 29))),
  (o4 31 25 (.ld 1 false (.t 30))),
  (o4 32 25 (.bin .gtr (.t 31) (ci 65536))),o1 33 (.pick (.t 25) (.c (.b true)) (.t 32))]
abbrev QP:List AO:=
 [o1 2 (.mv (ci 2))]
abbrev QO:List AO:=
 [(mt 34 3),o1 35 (.fa 0 (.t 1)),o1 36 (.ld 1 false (.t 35)),
  (mt 37 4),o1 38 (.ia 2 (.t 36) (.t 37)),o1 39 (.fa 1 (.t 38)),o1 40 (.ld 1 false (.t 39)),o1 41 (.bin .add (.t 34) (.t 40)),
  (mt 3 41)]
abbrev QY:AC:=
 (.seq (.seq (.reg QQ) (.cond (.t 33) (.seq (.reg QP) .ret) .skip)) (.reg QO))
abbrev Gu:List AO:=
 [(mt 16 4),o1 17 (.bin .add (.t 16) (ci 1)),
  (mt 4 17)]
abbrev Gz:AC:=
 (.seq (.seq (.reg QR) (.cond (.t 15) .skip (.exit 0))) (.seq (.block 1 QY) (.reg Gu)))
abbrev Gx:AC:=
 (.loop Gz)
abbrev Gs:List AO:=
 [(mt 42 3),o1 43 (.bin .gtr (.t 42) (ci 65536)),
  (mt 44 43),
  (o4 45 44 (.fa 1 (.t 1))),
  (o4 46 44 (.ld 1 false (.t 45))),
  (o4 47 44 (.bin .lss (.t 46) (ci 0))),o1 48 (.pick (.t 44) (.c (.b true)) (.t 47)),
  (mt 49 48),
  (o4 50 49 (.fa 1 (.t 1))),
  (o4 51 49 (.ld 1 false (.t 50))),
  (o4 52 49 (.bin .gtr (.t 51) (ci 16))),o1 53 (.pick (.t 49) (.c (.b true)) (.t 52))]
abbrev Gr:List AO:=
 [o1 2 (.mv (ci 2))]
abbrev Gq:List AO:=
 [o1 54 (.fa 2 (.t 1)),o1 55 (.ld 1 false (.t 54)),o1 56 (.len (.t 55)),o1 57 (.bin .gtr (.t 56) (ci 1024))]
abbrev Gp:List AO:=
 [o1 2 (.mv (ci 6))]
abbrev Gn:List AO:=
 [o1 5 (.mv (ci 0))]
abbrev Gm:List AO:=
 [(mt 58 5),o1 59 (.fa 2 (.t 1)),o1 60 (.ld 1 false (.t 59)),o1 61 (.len (.t 60)),o1 62 (.bin .lss (.t 58) (.t 61))]
abbrev Gl:List AO:=
 [o1 65 (.fa 2 (.t 1)),o1 66 (.ld 1 false (.t 65)),
  (mt 67 5),o1 68 (.ia 2 (.t 66) (.t 67)),o1 69 (.ld 2 true (.t 68)),
  (o2 70 81 [.t 69]),
  (mt 6 70)]
abbrev Gk:List AO:=
 [(mt 71 6),o1 72 (.bin .neq (.t 71) (ci 0))]
abbrev Gj:List AO:=
 [(mt 73 6),
  (mt 2 73)]
abbrev Gw:AC:=
 (.seq (.reg Gl) (.seq (.reg Gk) (.cond (.t 72) (.seq (.reg Gj) .ret) .skip)))
abbrev Gi:List AO:=
 [(mt 63 5),o1 64 (.bin .add (.t 63) (ci 1)),
  (mt 5 64)]
abbrev Gy:AC:=
 (.seq (.seq (.reg Gm) (.cond (.t 62) .skip (.exit 2))) (.seq (.block 3 Gw) (.reg Gi)))
abbrev Gv:AC:=
 (.loop Gy)
abbrev Gh:List AO:=
 [o1 2 (.mv (ci 0))]
abbrev QZ:AF:=⟨74,(.seq (.reg QW) (.seq (.seq (.reg QV) (.cond (.t 10) (.seq (.reg QU) .ret) .skip)) (.seq (.reg QT) (.seq (.seq (.reg QS) (.block 0 Gx)) (.seq (.seq (.reg Gs) (.cond (.t 53) (.seq (.reg Gr) .ret) .skip)) (.seq (.seq (.reg Gq) (.cond (.t 57) (.seq (.reg Gp) .ret) .skip)) (.seq (.seq (.reg Gn) (.block 2 Gv)) (.seq (.reg Gh) .ret)))))))),[.mv (.t 2)]⟩
theorem QX:ax Tryz.prog (af Tryz.prog 48) 48=some QZ:=by kernel_rfl
/-! compactorref21.sum-/
/-! compactorref21.formed-/
/-! compactorref20.Few-/
/-! compactorref21.check-/
/-! compactorref21.bounded-/
/-! compactorref21.steps-/
/-! cost.bounds.emits-/
abbrev QK:List AO:=
 [o1 3 (.bx 88 0 (.t 0)),o1 6 (.mv (ci 0))]
abbrev QJ:List AO:=
 [o1 7 (.mv (ci 0))]
abbrev QI:List AO:=
 [o1 10 (.fa 0 (.t 3)),o1 11 (.ld 1 false (.t 10)),
  (mt 12 1),
  (mt 13 2),o1 14 (.sl 2 (.t 11) (some (.t 12)) (some (.t 13))),o1 15 (.len (.t 14)),o1 16 (.mv (ci 0))]
abbrev QH:List AO:=
 [o1 17 (.bin .lss (.t 16) (.t 15))]
abbrev QG:List AO:=
 [o1 18 (.ia 2 (.t 14) (.t 16)),o1 19 (.ld 2 true (.t 18)),o1 9 (.al 54 [.n .i64 0,.n .u32 0]),
  (o3 (.st 2 (.t 9) (.t 19)))]
abbrev QF:List AO:=
 [o1 20 (.fa 0 (.t 9)),o1 21 (.ld 1 false (.t 20)),o1 22 (.bin .eql (.t 21) (ci 34))]
abbrev QE:List AO:=
 [(mt 23 7),o1 24 (.bin .add (.t 23) (ci 1)),
  (mt 7 24)]
abbrev QL:AC:=
 (.seq (.reg QG) (.seq (.reg QF) (.cond (.t 22) (.reg QE) .skip)))
abbrev QD:List AO:=
 [o1 25 (.bin .add (.t 16) (ci 1)),
  (mt 16 25)]
abbrev QM:AC:=
 (.seq (.reg QH) (.seq (.cond (.t 17) .skip (.exit 0)) (.seq (.block 1 QL) (.reg QD))))
abbrev Gg:AC:=
 (.loop QM)
abbrev Gf:List AO:=
 [(mt 26 7),
  (mt 6 26)]
abbrev QN:AF:=⟨27,(.seq (.reg QK) (.seq (.reg QJ) (.seq (.seq (.reg QI) (.block 0 Gg)) (.seq (.reg Gf) .ret)))),[.mv (.t 6)]⟩
theorem C9:ax Tryz.prog (af Tryz.prog 37) 37=some QN:=by kernel_rfl
/-! compactorref21.emits-/
/-! compactorref15.Check-/
abbrev Qz:List AO:=
 [o1 1 (.bx 54 0 (.t 0)),o1 2 (.mv (ci 0))]
abbrev Qy:List AO:=
 [o1 4 (.fa 0 (.t 1)),o1 5 (.ld 1 false (.t 4)),o1 6 (.bin .lss (.t 5) (ci 0)),
  (mt 7 6),
  (o4 8 7 (.fa 0 (.t 1))),
  (o4 9 7 (.ld 1 false (.t 8))),
  (o4 10 7 (.bin .geq (.t 9) (ci 36))),o1 11 (.pick (.t 7) (.c (.b true)) (.t 10))]
abbrev Qx:List AO:=
 [o1 2 (.mv (ci 1))]
abbrev Qw:List AO:=
 [o1 3 (.mv (ci 0))]
abbrev Qv:List AO:=
 [o1 12 (.fa 0 (.t 1)),o1 13 (.ld 1 false (.t 12))]
abbrev Qu:List AO:=
 [o1 15 (.bin .eql (.t 13) (ci 0)),
  (mt 14 15)]
abbrev Qt:List AO:=
 [o1 2 (.mv (ci 0))]
abbrev Qs:List AO:=
 [o1 17 (.bin .eql (.t 13) (ci 1)),
  (mt 16 17)]
abbrev Qr:List AO:=
 [o1 18 (.bin .eql (.t 13) (ci 2)),
  (mt 16 18)]
abbrev Qq:List AO:=
 [o1 3 (.mv (ci 15))]
abbrev Gc:List AO:=
 [o1 20 (.bin .eql (.t 13) (ci 3)),
  (mt 19 20)]
abbrev Gb:List AO:=
 [o1 21 (.bin .eql (.t 13) (ci 4)),
  (mt 19 21)]
abbrev Ga:List AO:=
 [o1 3 (.mv (ci 7))]
abbrev F9:List AO:=
 [o1 23 (.bin .eql (.t 13) (ci 35)),
  (mt 22 23)]
abbrev F8:List AO:=
 [o1 3 (.mv (ci 15))]
abbrev Gd:AC:=
 (.seq (.reg Qu) (.cond (.t 14) (.seq (.reg Qt) .ret) (.seq (.seq (.reg Qs) (.cond (.t 16) .skip (.reg Qr))) (.cond (.t 16) (.reg Qq) (.seq (.seq (.reg Gc) (.cond (.t 19) .skip (.reg Gb))) (.cond (.t 19) (.reg Ga) (.seq (.reg F9) (.cond (.t 22) (.reg F8) .skip))))))))
abbrev F7:List AO:=
 [o1 24 (.fa 1 (.t 1)),o1 25 (.ld 1 false (.t 24)),o1 26 (.cvi .i64 (.t 25)),
  (mt 27 3),o1 28 (.bin .gtr (.t 26) (.t 27))]
abbrev F6:List AO:=
 [o1 2 (.mv (ci 2))]
abbrev F5:List AO:=
 [o1 2 (.mv (ci 0))]
abbrev QB:AF:=⟨29,(.seq (.reg Qz) (.seq (.seq (.reg Qy) (.cond (.t 11) (.seq (.reg Qx) .ret) .skip)) (.seq (.reg Qw) (.seq (.seq (.reg Qv) (.block 0 Gd)) (.seq (.seq (.reg F7) (.cond (.t 28) (.seq (.reg F6) .ret) .skip)) (.seq (.reg F5) .ret)))))),[.mv (.t 2)]⟩
theorem QA:ax Tryz.prog (af Tryz.prog 81) 81=some QB:=by kernel_rfl
/-! compactorref20.Check-/
abbrev Qn:List AO:=
 [o1 1 (.bx 25 0 (.t 0)),o1 2 (.mv (ci 0)),o1 3 (.mv (ci 0))]
abbrev Qm:List AO:=
 [o1 10 (.ld 3 true (.t 1)),
  (o2 11 48 [.t 10]),
  (mt 4 11)]
abbrev Ql:List AO:=
 [(mt 12 4),o1 13 (.bin .neq (.t 12) (ci 0))]
abbrev Qk:List AO:=
 [(mt 14 4),o1 2 (.mv (ci 0)),
  (mt 3 14)]
abbrev Qj:List AO:=
 [o1 16 (.fa 2 (.t 1)),o1 17 (.ld 1 false (.t 16)),
  (o2 18 75 [.t 17]),
  (mt 15 18),o1 19 (.ext 0 (.t 15)),o1 20 (.ext 1 (.t 15)),o1 21 (.ext 2 (.t 15)),
  (mt 5 19),
  (mt 6 20),
  (mt 7 21)]
abbrev Qi:List AO:=
 [(mt 22 7),o1 23 (.bin .neq (.t 22) (ci 0))]
abbrev Qh:List AO:=
 [(mt 24 6),
  (mt 25 7),
  (mt 2 24),
  (mt 3 25)]
abbrev Qg:List AO:=
 [o1 8 (.mv (ci 0))]
abbrev Qf:List AO:=
 [(mt 26 8),o1 27 (.fa 2 (.t 1)),o1 28 (.ld 1 false (.t 27)),o1 29 (.len (.t 28)),o1 30 (.bin .lss (.t 26) (.t 29))]
abbrev Qe:List AO:=
 [o1 33 (.fa 2 (.t 1)),o1 34 (.ld 1 false (.t 33)),
  (mt 35 8),o1 36 (.ia 2 (.t 34) (.t 35)),o1 37 (.ld 2 true (.t 36)),o1 9 (.al 54 [.n .i64 0,.n .u32 0]),
  (o3 (.st 2 (.t 9) (.t 37)))]
abbrev F1:List AO:=
 [o1 38 (.fa 0 (.t 9)),o1 39 (.ld 1 false (.t 38)),o1 40 (.bin .eql (.t 39) (ci 1)),
  (mt 41 40),
  (o4 42 41 (.fa 0 (.t 9))),
  (o4 43 41 (.ld 1 false (.t 42))),
  (o4 44 41 (.bin .eql (.t 43) (ci 2))),o1 45 (.pick (.t 41) (.c (.b true)) (.t 44)),
  (mt 46 45),
  (o5 47 46 (.fa 1 (.t 9))),
  (o5 48 46 (.ld 1 false (.t 47))),
  (o5 49 46 (.cvi .i64 (.t 48))),
  (o5 50 46 (.fa 1 (.t 1))),
  (o5 51 46 (.ld 1 false (.t 50))),
  (o5 52 46 (.bin .geq (.t 49) (.t 51))),o1 53 (.pick (.t 46) (.t 52) (.c (.b false))),
  (mt 54 53),
  (o4 55 54 (.fa 0 (.t 9))),
  (o4 56 54 (.ld 1 false (.t 55))),
  (o4 57 54 (.bin .eql (.t 56) (ci 3))),
  (o4 58 54 (.mv (.t 57))),
  (o4 59 58 (.fa 0 (.t 9))),
  (o4 60 58 (.ld 1 false (.t 59))),
  (o4 61 58 (.bin .eql (.t 60) (ci 4))),
  (o4 62 54 (.pick (.t 58) (.c (.b true)) (.t 61))),
  (o4 63 54 (.mv (.t 62))),
  (o5 64 63 (.fa 1 (.t 9))),
  (o5 65 63 (.ld 1 false (.t 64))),
  (o5 66 63 (.cvi .i64 (.t 65))),
  (o5 67 63 (.fa 0 (.t 1))),
  (o5 68 63 (.ld 1 false (.t 67))),
  (o5 69 63 (.len (.t 68))),
  (o5 70 63 (.bin .geq (.t 66) (.t 69))),
  (o4 71 54 (.pick (.t 63) (.t 70) (.c (.b false)))),o1 72 (.pick (.t 54) (.c (.b true)) (.t 71))]
abbrev F0:List AO:=
 [(mt 73 8),
  (mt 2 73),o1 3 (.mv (ci 2))]
abbrev F3:AC:=
 (.seq (.reg Qe) (.seq (.reg F1) (.cond (.t 72) (.seq (.reg F0) .ret) .skip)))
abbrev FZ:List AO:=
 [(mt 31 8),o1 32 (.bin .add (.t 31) (ci 1)),
  (mt 8 32)]
abbrev F4:AC:=
 (.seq (.seq (.reg Qf) (.cond (.t 30) .skip (.exit 0))) (.seq (.block 1 F3) (.reg FZ)))
abbrev F2:AC:=
 (.loop F4)
abbrev FY:List AO:=
 [o1 2 (.mv (ci 0)),o1 3 (.mv (ci 0))]
abbrev Qp:AF:=⟨74,(.seq (.reg Qn) (.seq (.seq (.reg Qm) (.seq (.reg Ql) (.cond (.t 13) (.seq (.reg Qk) .ret) .skip))) (.seq (.seq (.reg Qj) (.seq (.reg Qi) (.cond (.t 23) (.seq (.reg Qh) .ret) .skip))) (.seq (.seq (.reg Qg) (.block 0 F2)) (.seq (.reg FY) .ret))))),[.mv (.t 2),.mv (.t 3)]⟩
theorem Qo:ax Tryz.prog (af Tryz.prog 45) 45=some Qp:=by kernel_rfl
/-! compactorref18.Loops-/
/-! compactorref18.Parse-/
abbrev Qb:List AO:=
 [o1 2 (.mv (.c .sl0)),o1 3 (.mv (ci 0)),o1 4 (.mv (ci 0))]
abbrev Qa:List AO:=
 [(mt 9 0),
  (o2 10 106 [.t 9]),
  (mt 8 10),o1 11 (.ext 0 (.t 8)),o1 12 (.ext 1 (.t 8)),o1 13 (.ext 2 (.t 8)),
  (mt 5 11),
  (mt 6 12),
  (mt 7 13)]
abbrev P9:List AO:=
 [(mt 14 7),o1 15 (.bin .neq (.t 14) (ci 0))]
abbrev P8:List AO:=
 [(mt 16 6),
  (mt 17 7),o1 2 (.mv (.c .sl0)),
  (mt 3 16),
  (mt 4 17)]
abbrev P7:List AO:=
 [(mt 18 0),
  (mt 19 5),
  (mt 20 0),o1 21 (.len (.t 20)),
  (o2 22 107 [.t 18,.t 19,(ci 0),.t 21]),
  (mt 2 22),o1 3 (.mv (ci 0)),o1 4 (.mv (ci 0))]
abbrev Qd:AF:=⟨23,(.seq (.reg Qb) (.seq (.reg Qa) (.seq (.seq (.reg P9) (.cond (.t 15) (.seq (.reg P8) .ret) .skip)) (.seq (.reg P7) .ret)))),[.mv (.t 2),.mv (.t 3),.mv (.t 4)]⟩
theorem Qc:ax Tryz.prog (af Tryz.prog 75) 75=some Qd:=by kernel_rfl
/-! compactorref21.few-/
abbrev P4:List AO:=
 [o1 2 (.mv (ci 0))]
abbrev P3:List AO:=
 [(mt 3 0),⟨some 4,none,.mo (.mi (.t 3) (ci 281474976710657))⟩,
  (mt 2 4)]
abbrev P6:AF:=⟨5,(.seq (.reg P4) (.seq (.reg P3) .ret)),[.mv (.t 2)]⟩
theorem P5:ax Tryz.prog (af Tryz.prog 49) 49=some P6:=by kernel_rfl
/-! compactorref21.times-/
abbrev P0:List AO:=
 [o1 4 (.mv (ci 0))]
abbrev PZ:List AO:=
 [(mt 5 1),o1 6 (.bin .gtr (.t 5) (ci 0)),
  (mt 7 6),
  (o5 8 7 (.mv (.t 0))),
  (o5 9 7 (.mv (.t 1))),
  (o5 10 7 (.bin .quo (ci 281474976710657) (.t 9))),
  (o5 11 7 (.bin .gtr (.t 8) (.t 10))),o1 12 (.pick (.t 7) (.t 11) (.c (.b false)))]
abbrev PY:List AO:=
 [o1 4 (.mv (ci 281474976710657))]
abbrev PX:List AO:=
 [(mt 13 0),
  (mt 14 1),o1 15 (.bin .mul (.t 13) (.t 14)),
  (o2 16 49 [.t 15]),
  (mt 4 16)]
abbrev P2:AF:=⟨17,(.seq (.reg P0) (.seq (.seq (.reg PZ) (.cond (.t 12) (.seq (.reg PY) .ret) .skip)) (.seq (.reg PX) .ret))),[.mv (.t 4)]⟩
theorem P1:ax Tryz.prog (af Tryz.prog 27) 27=some P2:=by kernel_rfl
/-! compactorref21.most-/
/-! verifier.widening$1-/
abbrev PV:List AO:=
 [o1 6 (.mv (.c .sl0)),o1 7 (.mv (ci 0))]
abbrev PU:List AO:=
 [(mt 8 2),
  (mt 9 1),
  (mt 6 8),
  (mt 7 9)]
abbrev PW:AF:=⟨10,(.seq (.reg PV) (.seq (.reg PU) .ret)),[.mv (.t 6),.mv (.t 7)]⟩
theorem C8:ax Tryz.prog (af Tryz.prog 57) 57=some PW:=by kernel_rfl
/-! compactorref18.partners-/
abbrev PQ:List AO:=
 [o1 2 (.mv (.c .sl0)),o1 3 (.mv (ci 0)),o1 4 (.mv (ci 0))]
abbrev PP:List AO:=
 [(mt 10 0),o1 11 (.len (.t 10)),o1 12 (.bin .gtr (.t 11) (ci 1024))]
abbrev PO:List AO:=
 [o1 2 (.mv (.c .sl0)),o1 3 (.mv (ci 0)),o1 4 (.mv (ci 6))]
abbrev PN:List AO:=
 [(mt 13 0),o1 14 (.len (.t 13)),o1 15 (.ms 3 1 8 [.n .i64 0] (.t 14) (.t 14)),
  (mt 5 15)]
abbrev PM:List AO:=
 [o1 6 (.mv (.c .sl0)),o1 7 (.mv (.c .sl0))]
abbrev PL:List AO:=
 [o1 8 (.mv (ci 0))]
abbrev PK:List AO:=
 [(mt 16 8),
  (mt 17 0),o1 18 (.len (.t 17)),o1 19 (.bin .lss (.t 16) (.t 18))]
abbrev PJ:List AO:=
 [(mt 22 5),
  (mt 23 8),o1 24 (.ia 1 (.t 22) (.t 23)),
  (o3 (.st 1 (.t 24) (.c (.n .i64 (-1)))))]
abbrev PH:List AO:=
 [(mt 25 6),o1 26 (.len (.t 25)),
  (mt 9 26)]
abbrev PG:List AO:=
 [(mt 27 0),
  (mt 28 8),o1 29 (.ia 2 (.t 27) (.t 28)),o1 30 (.fa 0 (.t 29)),o1 31 (.ld 1 false (.t 30))]
abbrev FS:List AO:=
 [o1 33 (.bin .eql (.t 31) (ci 27)),
  (mt 32 33)]
abbrev FR:List AO:=
 [o1 34 (.bin .eql (.t 31) (ci 29)),
  (mt 32 34)]
abbrev FQ:List AO:=
 [(mt 35 9),o1 36 (.bin .eql (.t 35) (ci 8))]
abbrev FP:List AO:=
 [(mt 37 8),o1 2 (.mv (.c .sl0)),
  (mt 3 37),o1 4 (.mv (ci 15))]
abbrev FO:List AO:=
 [(mt 38 6),
  (mt 39 8),o1 40 (.bs 3 1 1 [.n .i64 0] [(0,1,(.t 39))]),o1 41 (.app 3 1 8 (.t 38) (.t 40)),
  (mt 42 7),o1 43 (.bs 3 1 1 [.n .i64 0] [(0,1,(.c (.n .i64 (-1))))]),o1 44 (.app 3 1 8 (.t 42) (.t 43)),
  (mt 6 41),
  (mt 7 44)]
abbrev FN:List AO:=
 [o1 46 (.bin .eql (.t 31) (ci 28)),
  (mt 45 46)]
abbrev FM:List AO:=
 [(mt 47 9),o1 48 (.bin .eql (.t 47) (ci 0)),
  (mt 49 48),
  (o4 50 49 (.mv (.t 0))),
  (o4 51 49 (.mv (.t 6))),
  (o4 52 49 (.mv (.t 9))),
  (o4 53 49 (.bin .sub (.t 52) (ci 1))),
  (o4 54 49 (.ia 1 (.t 51) (.t 53))),
  (o4 55 49 (.ld 1 false (.t 54))),
  (o4 56 49 (.ia 2 (.t 50) (.t 55))),
  (o4 57 49 (.fa 0 (.t 56))),
  (o4 58 49 (.ld 1 false (.t 57))),
  (o4 59 49 (.bin .neq (.t 58) (ci 27))),o1 60 (.pick (.t 49) (.c (.b true)) (.t 59)),
  (mt 61 60),
  (o4 62 61 (.mv (.t 7))),
  (o4 63 61 (.mv (.t 9))),
  (o4 64 61 (.bin .sub (.t 63) (ci 1))),
  (o4 65 61 (.ia 1 (.t 62) (.t 64))),
  (o4 66 61 (.ld 1 false (.t 65))),
  (o4 67 61 (.bin .geq (.t 66) (ci 0))),o1 68 (.pick (.t 61) (.c (.b true)) (.t 67))]
abbrev FL:List AO:=
 [(mt 69 8),o1 2 (.mv (.c .sl0)),
  (mt 3 69),o1 4 (.mv (ci 15))]
abbrev FK:List AO:=
 [(mt 70 7),
  (mt 71 9),o1 72 (.bin .sub (.t 71) (ci 1)),
  (mt 73 8),o1 74 (.ia 1 (.t 70) (.t 72)),
  (o3 (.st 1 (.t 74) (.t 73)))]
abbrev FJ:List AO:=
 [(mt 75 5),
  (mt 76 6),
  (mt 77 9),o1 78 (.bin .sub (.t 77) (ci 1)),o1 79 (.ia 1 (.t 76) (.t 78)),o1 80 (.ld 1 false (.t 79)),
  (mt 81 8),o1 82 (.ia 1 (.t 75) (.t 80)),
  (o3 (.st 1 (.t 82) (.t 81)))]
abbrev FI:List AO:=
 [o1 84 (.bin .eql (.t 31) (ci 30)),
  (mt 83 84)]
abbrev FH:List AO:=
 [(mt 85 0),
  (mt 86 6),
  (o2 87 154 [.t 85,.t 86]),o1 88 (.bin .lss (.t 87) (ci 0))]
abbrev FG:List AO:=
 [(mt 89 8),o1 2 (.mv (.c .sl0)),
  (mt 3 89),o1 4 (.mv (ci 15))]
abbrev FF:List AO:=
 [o1 91 (.bin .eql (.t 31) (ci 31)),
  (mt 90 91)]
abbrev FE:List AO:=
 [(mt 92 9),o1 93 (.bin .eql (.t 92) (ci 0))]
abbrev FD:List AO:=
 [(mt 94 8),o1 2 (.mv (.c .sl0)),
  (mt 3 94),o1 4 (.mv (ci 15))]
abbrev FC:List AO:=
 [(mt 95 5),
  (mt 96 8),
  (mt 97 6),
  (mt 98 9),o1 99 (.bin .sub (.t 98) (ci 1)),o1 100 (.ia 1 (.t 97) (.t 99)),o1 101 (.ld 1 false (.t 100)),o1 102 (.ia 1 (.t 95) (.t 96)),
  (o3 (.st 1 (.t 102) (.t 101)))]
abbrev FB:List AO:=
 [(mt 103 7),
  (mt 104 9),o1 105 (.bin .sub (.t 104) (ci 1)),o1 106 (.ia 1 (.t 103) (.t 105)),o1 107 (.ld 1 false (.t 106)),o1 108 (.bin .geq (.t 107) (ci 0))]
abbrev FA:List AO:=
 [(mt 109 5),
  (mt 110 7),
  (mt 111 9),o1 112 (.bin .sub (.t 111) (ci 1)),o1 113 (.ia 1 (.t 110) (.t 112)),o1 114 (.ld 1 false (.t 113)),
  (mt 115 8),o1 116 (.ia 1 (.t 109) (.t 114)),
  (o3 (.st 1 (.t 116) (.t 115)))]
abbrev Fy:List AO:=
 [(mt 117 5),
  (mt 118 6),
  (mt 119 9),o1 120 (.bin .sub (.t 119) (ci 1)),o1 121 (.ia 1 (.t 118) (.t 120)),o1 122 (.ld 1 false (.t 121)),
  (mt 123 8),o1 124 (.ia 1 (.t 117) (.t 122)),
  (o3 (.st 1 (.t 124) (.t 123)))]
abbrev FT:List (Nat×AO):=
 [(2,(mt 125 6)),
  (2,(mt 126 9)),(2,(o1 127 (.bin .sub (.t 126) (ci 1)))),(2,(o1 128 (.sl 1 (.t 125) none (some (.t 127))))),
  (2,(mt 129 7)),
  (2,(mt 130 9)),(2,(o1 131 (.bin .sub (.t 130) (ci 1)))),(2,(o1 132 (.sl 1 (.t 129) none (some (.t 131))))),
  (2,(mt 6 128)),
  (2,(mt 7 132))]
abbrev FW:AC:=
 (.seq (.seq (.reg FS) (.cond (.t 32) .skip (.reg FR))) (.cond (.t 32) (.seq (.seq (.reg FQ) (.cond (.t 36) (.seq (.reg FP) .ret) .skip)) (.reg FO)) (.seq (.reg FN) (.cond (.t 45) (.seq (.seq (.reg FM) (.cond (.t 68) (.seq (.reg FL) .ret) .skip)) (.seq (.reg FK) (.reg FJ))) (.seq (.reg FI) (.cond (.t 83) (.seq (.reg FH) (.cond (.t 88) (.seq (.reg FG) .ret) .skip)) (.seq (.reg FF) (.cond (.t 90) (.seq (.seq (.reg FE) (.cond (.t 93) (.seq (.reg FD) .ret) .skip)) (.seq (.reg FC) (.seq (.seq (.reg FB) (.cond (.t 108) (.reg FA) (.reg Fy))) (.mix FT)))) .skip))))))))
abbrev FV:AC:=
 (.seq (.reg PJ) (.seq (.reg PH) (.seq (.reg PG) (.block 2 FW))))
abbrev Fx:List AO:=
 [(mt 20 8),o1 21 (.bin .add (.t 20) (ci 1)),
  (mt 8 21)]
abbrev FX:AC:=
 (.seq (.seq (.reg PK) (.cond (.t 19) .skip (.exit 0))) (.seq (.block 1 FV) (.reg Fx)))
abbrev FU:AC:=
 (.loop FX)
abbrev Fw:List AO:=
 [(mt 133 6),o1 134 (.len (.t 133)),o1 135 (.bin .gtr (.t 134) (ci 0))]
abbrev Fv:List AO:=
 [(mt 136 0),o1 137 (.len (.t 136)),o1 2 (.mv (.c .sl0)),
  (mt 3 137),o1 4 (.mv (ci 15))]
abbrev Fu:List AO:=
 [(mt 138 0),
  (mt 139 5),
  (o2 140 155 [.t 138,.t 139]),
  (mt 2 140),o1 3 (.mv (ci 0)),o1 4 (.mv (ci 0))]
abbrev PS:AF:=⟨141,(.seq (.reg PQ) (.seq (.seq (.reg PP) (.cond (.t 12) (.seq (.reg PO) .ret) .skip)) (.seq (.reg PN) (.seq (.reg PM) (.seq (.seq (.reg PL) (.block 0 FU)) (.seq (.seq (.reg Fw) (.cond (.t 135) (.seq (.reg Fv) .ret) .skip)) (.seq (.reg Fu) .ret))))))),[.mv (.t 2),.mv (.t 3),.mv (.t 4)]⟩
theorem PR:ax Tryz.prog (af Tryz.prog 106) 106=some PS:=by kernel_rfl
/-! compactorref18.tree-/
abbrev PA:List AO:=
 [o1 8 (.mv (.c .sl0))]
abbrev Pz:List AO:=
 [o1 9 (.mv (.c .sl0))]
abbrev Py:List AO:=
 [(mt 14 2),
  (mt 10 14)]
abbrev Px:List AO:=
 [(mt 15 10),
  (mt 16 3),o1 17 (.bin .lss (.t 15) (.t 16))]
abbrev Pw:List AO:=
 [(mt 18 0),
  (mt 19 10),o1 20 (.ia 2 (.t 18) (.t 19)),o1 21 (.fa 0 (.t 20)),o1 22 (.ld 1 false (.t 21)),o1 23 (.bin .neq (.t 22) (ci 27)),
  (mt 24 23),
  (o5 25 24 (.mv (.t 0))),
  (o5 26 24 (.mv (.t 10))),
  (o5 27 24 (.ia 2 (.t 25) (.t 26))),
  (o5 28 24 (.fa 0 (.t 27))),
  (o5 29 24 (.ld 1 false (.t 28))),
  (o5 30 24 (.bin .neq (.t 29) (ci 29))),o1 31 (.pick (.t 24) (.t 30) (.c (.b false)))]
abbrev Pv:List AO:=
 [(mt 32 10),
  (mt 11 32)]
abbrev Pu:List AO:=
 [(mt 33 11),
  (mt 34 3),o1 35 (.bin .lss (.t 33) (.t 34)),
  (mt 36 35),
  (o5 37 36 (.mv (.t 0))),
  (o5 38 36 (.mv (.t 11))),
  (o5 39 36 (.ia 2 (.t 37) (.t 38))),
  (o5 40 36 (.fa 0 (.t 39))),
  (o5 41 36 (.ld 1 false (.t 40))),
  (o5 42 36 (.bin .neq (.t 41) (ci 27))),o1 43 (.pick (.t 36) (.t 42) (.c (.b false))),
  (mt 44 43),
  (o5 45 44 (.mv (.t 0))),
  (o5 46 44 (.mv (.t 11))),
  (o5 47 44 (.ia 2 (.t 45) (.t 46))),
  (o5 48 44 (.fa 0 (.t 47))),
  (o5 49 44 (.ld 1 false (.t 48))),
  (o5 50 44 (.bin .neq (.t 49) (ci 29))),o1 51 (.pick (.t 44) (.t 50) (.c (.b false)))]
abbrev Pt:List AO:=
 [(mt 52 11),o1 53 (.bin .add (.t 52) (ci 1)),
  (mt 11 53)]
abbrev PD:AC:=
 (.reg Pt)
abbrev PE:AC:=
 (.seq (.seq (.reg Pu) (.cond (.t 51) .skip (.exit 2))) (.block 3 PD))
abbrev Fs:AC:=
 (.loop PE)
abbrev Fn:List AO:=
 [(mt 54 9),
  (mt 55 10),
  (mt 56 11),o1 57 (.bd [.n .i64 0,.n .i64 0,.n .i64 0,.sl0,.sl0] [(0,1,(.c (.n .i64 (-1)))),(1,1,(.t 55)),(2,1,(.t 56))]),o1 58 (.bs 140 5 1 [.n .i64 0,.n .i64 0,.n .i64 0,.sl0,.sl0] [(0,5,(.t 57))]),o1 59 (.app 140 5 72 (.t 54) (.t 58)),
  (mt 9 59)]
abbrev Fm:List AO:=
 [(mt 60 11),
  (mt 10 60)]
abbrev Fl:List AO:=
 [(mt 61 0),
  (mt 62 10),o1 63 (.ia 2 (.t 61) (.t 62)),o1 64 (.fa 0 (.t 63)),o1 65 (.ld 1 false (.t 64)),
  (mt 66 10),o1 67 (.bd [.n .i64 0,.n .i64 0,.n .i64 0,.sl0,.sl0] [(0,1,(.t 65)),(1,1,(.t 66))]),o1 12 (.al 140 [.n .i64 0,.n .i64 0,.n .i64 0,.sl0,.sl0]),
  (o3 (.st 5 (.t 12) (.t 67)))]
abbrev Fk:List AO:=
 [(mt 68 1),
  (mt 69 10),o1 70 (.ia 1 (.t 68) (.t 69)),o1 71 (.ld 1 false (.t 70)),
  (mt 13 71)]
abbrev Fj:List AO:=
 [(mt 72 0),
  (mt 73 1),
  (mt 74 10),o1 75 (.bin .add (.t 74) (ci 1)),
  (mt 76 13),
  (o2 77 107 [.t 72,.t 73,.t 75,.t 76]),o1 78 (.fa 3 (.t 12)),
  (o3 (.st 1 (.t 78) (.t 77)))]
abbrev Fi:List AO:=
 [(mt 79 13),o1 80 (.bin .add (.t 79) (ci 1)),o1 81 (.fa 2 (.t 12)),
  (o3 (.st 1 (.t 81) (.t 80)))]
abbrev Fh:List AO:=
 [(mt 82 0),
  (mt 83 13),o1 84 (.ia 2 (.t 82) (.t 83)),o1 85 (.fa 0 (.t 84)),o1 86 (.ld 1 false (.t 85)),o1 87 (.bin .eql (.t 86) (ci 28))]
abbrev Fg:List AO:=
 [(mt 88 0),
  (mt 89 1),
  (mt 90 13),o1 91 (.bin .add (.t 90) (ci 1)),
  (mt 92 1),
  (mt 93 13),o1 94 (.ia 1 (.t 92) (.t 93)),o1 95 (.ld 1 false (.t 94)),
  (o2 96 107 [.t 88,.t 89,.t 91,.t 95]),o1 97 (.fa 4 (.t 12)),
  (o3 (.st 1 (.t 97) (.t 96)))]
abbrev Ff:List AO:=
 [(mt 98 1),
  (mt 99 13),o1 100 (.ia 1 (.t 98) (.t 99)),o1 101 (.ld 1 false (.t 100)),o1 102 (.bin .add (.t 101) (ci 1)),o1 103 (.fa 2 (.t 12)),
  (o3 (.st 1 (.t 103) (.t 102)))]
abbrev Fe:List AO:=
 [(mt 104 9),o1 105 (.ld 5 true (.t 12)),o1 106 (.bs 140 5 1 [.n .i64 0,.n .i64 0,.n .i64 0,.sl0,.sl0] [(0,5,(.t 105))]),o1 107 (.app 140 5 72 (.t 104) (.t 106)),
  (mt 9 107)]
abbrev Fd:List AO:=
 [o1 108 (.fa 2 (.t 12)),o1 109 (.ld 1 false (.t 108)),
  (mt 10 109)]
abbrev Fq:AC:=
 (.seq (.seq (.reg Pw) (.cond (.t 31) (.seq (.reg Pv) (.seq (.block 2 Fs) (.seq (.reg Fn) (.seq (.reg Fm) (.exit 1))))) .skip)) (.seq (.reg Fl) (.seq (.reg Fk) (.seq (.reg Fj) (.seq (.reg Fi) (.seq (.seq (.reg Fh) (.cond (.t 87) (.seq (.reg Fg) (.reg Ff)) .skip)) (.seq (.reg Fe) (.reg Fd))))))))
abbrev Ft:AC:=
 (.seq (.seq (.reg Px) (.cond (.t 17) .skip (.exit 0))) (.block 1 Fq))
abbrev Fp:AC:=
 (.loop Ft)
abbrev Fc:List AO:=
 [(mt 110 9),
  (mt 8 110)]
abbrev PF:AF:=⟨111,(.seq (.reg PA) (.seq (.reg Pz) (.seq (.reg Py) (.seq (.block 0 Fp) (.seq (.reg Fc) .ret))))),[.mv (.t 8)]⟩
theorem PB:ax Tryz.prog (af Tryz.prog 107) 107=some PF:=by kernel_rfl
/-! instruction.operations$1-/
abbrev Pp:List AO:=
 [o1 2 (.al 146 [.s ⟨#[]⟩,.s ⟨#[]⟩,.s ⟨#[]⟩,.n .u64 0,.b false])]
abbrev Po:List AO:=
 [(mt 3 0),o1 4 (.bd [.s ⟨#[]⟩,.s ⟨#[]⟩,.s ⟨#[]⟩,.n .u64 0,.b false] [(0,1,(.t 3)),(1,1,(.c (.s ⟨#[110,110]⟩))),(2,1,(.c (.s ⟨#[110]⟩))),(3,1,(.c (.n .u64 1))),(4,1,(.c (.b false)))]),
  (o3 (.st 5 (.t 2) (.t 4)))]
abbrev Ps:AF:=⟨5,(.seq (.reg Pp) (.seq (.reg Po) .ret)),[.ld 5 true (.t 2)]⟩
theorem Pq:ax Tryz.prog (af Tryz.prog 131) 131=some Ps:=by kernel_rfl
/-! instruction.operations$2-/
abbrev Pk:List AO:=
 [o1 6 (.al 146 [.s ⟨#[]⟩,.s ⟨#[]⟩,.s ⟨#[]⟩,.n .u64 0,.b false])]
abbrev Pj:List AO:=
 [(mt 7 0),
  (mt 8 1),
  (mt 9 2),o1 10 (.bd [.s ⟨#[]⟩,.s ⟨#[]⟩,.s ⟨#[]⟩,.n .u64 0,.b false] [(0,1,(.t 7)),(1,1,(.t 8)),(2,1,(.t 9)),(3,1,(.c (.n .u64 1))),(4,1,(.c (.b false)))]),
  (o3 (.st 5 (.t 6) (.t 10)))]
abbrev Pn:AF:=⟨11,(.seq (.reg Pk) (.seq (.reg Pj) .ret)),[.ld 5 true (.t 6)]⟩
theorem Pm:ax Tryz.prog (af Tryz.prog 132) 132=some Pn:=by kernel_rfl
/-! compactorref18.innermost-/
abbrev MG:List AO:=
 [o1 4 (.mv (ci 0))]
abbrev MF:List AO:=
 [(mt 6 1),o1 7 (.len (.t 6)),o1 8 (.bin .sub (.t 7) (ci 1)),
  (mt 5 8)]
abbrev ME:List AO:=
 [(mt 9 5),o1 10 (.bin .geq (.t 9) (ci 0))]
abbrev MC:List AO:=
 [(mt 13 0),
  (mt 14 1),
  (mt 15 5),o1 16 (.ia 1 (.t 14) (.t 15)),o1 17 (.ld 1 false (.t 16)),o1 18 (.ia 2 (.t 13) (.t 17)),o1 19 (.fa 0 (.t 18)),o1 20 (.ld 1 false (.t 19)),o1 21 (.bin .eql (.t 20) (ci 29))]
abbrev MB:List AO:=
 [(mt 22 1),
  (mt 23 5),o1 24 (.ia 1 (.t 22) (.t 23)),o1 25 (.ld 1 false (.t 24)),
  (mt 4 25)]
abbrev MJ:AC:=
 (.seq (.reg MC) (.cond (.t 21) (.seq (.reg MB) .ret) .skip))
abbrev MA:List AO:=
 [(mt 11 5),o1 12 (.bin .sub (.t 11) (ci 1)),
  (mt 5 12)]
abbrev ML:AC:=
 (.seq (.seq (.reg ME) (.cond (.t 10) .skip (.exit 0))) (.seq (.block 1 MJ) (.reg MA)))
abbrev MI:AC:=
 (.loop ML)
abbrev Mz:List AO:=
 [o1 4 (.mv (.c (.n .i64 (-1))))]
abbrev ET:AF:=⟨26,(.seq (.reg MG) (.seq (.seq (.reg MF) (.block 0 MI)) (.seq (.reg Mz) .ret))),[.mv (.t 4)]⟩
theorem MH:ax Tryz.prog (af Tryz.prog 154) 154=some ET:=by kernel_rfl
/-! compactorref18.leaves-/
abbrev Mx:List AO:=
 [o1 4 (.mv (.c .sl0))]
abbrev Mw:List AO:=
 [o1 5 (.mv (.c .sl0))]
abbrev Mv:List AO:=
 [o1 6 (.mv (ci 0))]
abbrev Mu:List AO:=
 [(mt 7 6),
  (mt 8 0),o1 9 (.len (.t 8)),o1 10 (.bin .lss (.t 7) (.t 9))]
abbrev Mt:List AO:=
 [(mt 14 0),
  (mt 15 6),o1 16 (.ia 2 (.t 14) (.t 15)),o1 17 (.fa 0 (.t 16)),o1 18 (.ld 1 false (.t 17)),o1 19 (.bin .eql (.t 18) (ci 29)),
  (mt 13 19)]
abbrev Ms:List AO:=
 [(mt 20 5),
  (mt 21 6),o1 22 (.bs 3 1 1 [.n .i64 0] [(0,1,(.t 21))]),o1 23 (.app 3 1 8 (.t 20) (.t 22)),
  (mt 5 23)]
abbrev Mr:List AO:=
 [(mt 25 0),
  (mt 26 6),o1 27 (.ia 2 (.t 25) (.t 26)),o1 28 (.fa 0 (.t 27)),o1 29 (.ld 1 false (.t 28)),o1 30 (.bin .eql (.t 29) (ci 31)),
  (mt 31 30),
  (o5 32 31 (.mv (.t 0))),
  (o5 33 31 (.mv (.t 1))),
  (o5 34 31 (.mv (.t 6))),
  (o5 35 31 (.ia 1 (.t 33) (.t 34))),
  (o5 36 31 (.ld 1 false (.t 35))),
  (o5 37 31 (.ia 2 (.t 32) (.t 36))),
  (o5 38 31 (.fa 0 (.t 37))),
  (o5 39 31 (.ld 1 false (.t 38))),
  (o5 40 31 (.bin .eql (.t 39) (ci 29))),o1 41 (.pick (.t 31) (.t 40) (.c (.b false))),
  (mt 24 41)]
abbrev Mq:List AO:=
 [(mt 42 5),
  (mt 43 5),o1 44 (.len (.t 43)),o1 45 (.bin .sub (.t 44) (ci 1)),o1 46 (.sl 1 (.t 42) none (some (.t 45))),
  (mt 5 46)]
abbrev Mp:List AO:=
 [(mt 48 0),
  (mt 49 6),o1 50 (.ia 2 (.t 48) (.t 49)),o1 51 (.fa 0 (.t 50)),o1 52 (.ld 1 false (.t 51)),o1 53 (.bin .eql (.t 52) (ci 30)),
  (mt 47 53)]
abbrev Mo:List AO:=
 [(mt 54 1),
  (mt 55 6),
  (mt 56 1),
  (mt 57 5),
  (mt 58 5),o1 59 (.len (.t 58)),o1 60 (.bin .sub (.t 59) (ci 1)),o1 61 (.ia 1 (.t 57) (.t 60)),o1 62 (.ld 1 false (.t 61)),o1 63 (.ia 1 (.t 56) (.t 62)),o1 64 (.ld 1 false (.t 63)),o1 65 (.ia 1 (.t 54) (.t 55)),
  (o3 (.st 1 (.t 65) (.t 64)))]
abbrev Bk:AC:=
 (.seq (.reg Mt) (.cond (.t 13) (.reg Ms) (.seq (.reg Mr) (.cond (.t 24) (.reg Mq) (.seq (.reg Mp) (.cond (.t 47) (.reg Mo) .skip))))))
abbrev Bj:AC:=
 (.block 2 Bk)
abbrev Bh:List AO:=
 [(mt 11 6),o1 12 (.bin .add (.t 11) (ci 1)),
  (mt 6 12)]
abbrev Bl:AC:=
 (.seq (.seq (.reg Mu) (.cond (.t 10) .skip (.exit 0))) (.seq (.block 1 Bj) (.reg Bh)))
abbrev Bi:AC:=
 (.loop Bl)
abbrev Bg:List AO:=
 [(mt 66 1),
  (mt 4 66)]
abbrev ES:AF:=⟨67,(.seq (.reg Mx) (.seq (.reg Mw) (.seq (.seq (.reg Mv) (.block 0 Bi)) (.seq (.reg Bg) .ret)))),[.mv (.t 4)]⟩
theorem My:ax Tryz.prog (af Tryz.prog 155) 155=some ES:=by kernel_rfl
/-! interval.Within-/
abbrev Mn:List AO:=
 [o1 2 (.bx 127 0 (.t 0)),o1 3 (.bx 127 0 (.t 1)),o1 4 (.mv (.c (.b false)))]
abbrev Mm:List AO:=
 [o1 5 (.ld 2 true (.t 2)),o1 6 (.ld 2 true (.t 3)),
  (o2 7 92 [.t 5,.t 6]),
  (mt 8 7),
  (o5 9 8 (.fa 0 (.t 3))),
  (o5 10 8 (.ld 1 false (.t 9))),
  (o5 11 8 (.fa 0 (.t 2))),
  (o5 12 8 (.ld 1 false (.t 11))),
  (o5 13 8 (.bin .leq (.t 10) (.t 12))),o1 14 (.pick (.t 8) (.t 13) (.c (.b false))),
  (mt 15 14),
  (o5 16 15 (.fa 1 (.t 2))),
  (o5 17 15 (.ld 1 false (.t 16))),
  (o5 18 15 (.fa 1 (.t 3))),
  (o5 19 15 (.ld 1 false (.t 18))),
  (o5 20 15 (.bin .leq (.t 17) (.t 19))),o1 21 (.pick (.t 15) (.t 20) (.c (.b false))),
  (mt 4 21)]
abbrev EP:AF:=⟨22,(.seq (.reg Mn) (.seq (.reg Mm) .ret)),[.mv (.t 4)]⟩
theorem xN:ax Tryz.prog (af Tryz.prog 172) 172=some EP:=by kernel_rfl
/-! interval.operands.add-/
abbrev Ml:List AO:=
 [o1 1 (.bx 262 0 (.t 0)),o1 2 (.al 127 [.n .i64 0,.n .i64 0])]
abbrev Mj:List AO:=
 [o1 3 (.fa 0 (.t 1)),o1 4 (.ld 1 false (.t 3)),o1 5 (.fa 2 (.t 1)),o1 6 (.ld 1 false (.t 5)),o1 7 (.bin .add (.t 4) (.t 6)),o1 8 (.fa 1 (.t 1)),o1 9 (.ld 1 false (.t 8)),o1 10 (.fa 3 (.t 1)),o1 11 (.ld 1 false (.t 10)),o1 12 (.bin .add (.t 9) (.t 11)),
  (o2 13 227 [.t 7,.t 12]),
  (o3 (.st 2 (.t 2) (.t 13)))]
abbrev EO:AF:=⟨14,(.seq (.reg Ml) (.seq (.reg Mj) .ret)),[.ld 2 true (.t 2)]⟩
theorem xM:ax Tryz.prog (af Tryz.prog 187) 187=some EO:=by kernel_rfl
/-! interval.operands.sub-/
abbrev Mi:List AO:=
 [o1 1 (.bx 262 0 (.t 0)),o1 2 (.al 127 [.n .i64 0,.n .i64 0])]
abbrev Mh:List AO:=
 [o1 3 (.fa 0 (.t 1)),o1 4 (.ld 1 false (.t 3)),o1 5 (.fa 3 (.t 1)),o1 6 (.ld 1 false (.t 5)),o1 7 (.bin .sub (.t 4) (.t 6)),o1 8 (.fa 1 (.t 1)),o1 9 (.ld 1 false (.t 8)),o1 10 (.fa 2 (.t 1)),o1 11 (.ld 1 false (.t 10)),o1 12 (.bin .sub (.t 9) (.t 11)),
  (o2 13 227 [.t 7,.t 12]),
  (o3 (.st 2 (.t 2) (.t 13)))]
abbrev EM:AF:=⟨14,(.seq (.reg Mi) (.seq (.reg Mh) .ret)),[.ld 2 true (.t 2)]⟩
theorem xL:ax Tryz.prog (af Tryz.prog 188) 188=some EM:=by kernel_rfl
/-! interval.operands.mul-/
abbrev Mf:List AO:=
 [o1 1 (.bx 262 0 (.t 0)),o1 2 (.al 127 [.n .i64 0,.n .i64 0])]
abbrev Mg:List (Nat×AO):=
 [(2,(o1 3 (.fa 3 (.t 1)))),(1,(o1 4 (.ld 1 false (.t 3)))),(2,(o1 5 (.bin .gtr (.t 4) (ci 0)))),
  (2,(mt 6 5)),
  (2,(o5 7 6 (.fa 1 (.t 1)))),
  (2,(o5 9 6 (.fa 3 (.t 1)))),
  (1,(o5 8 6 (.ld 1 false (.t 7)))),
  (1,(o5 10 6 (.ld 1 false (.t 9)))),
  (2,(o5 11 6 (.bin .quo (ci 4294967295) (.t 10)))),
  (2,(o5 12 6 (.bin .gtr (.t 8) (.t 11)))),(2,(o1 13 (.pick (.t 6) (.t 12) (.c (.b false)))))]
abbrev Me:List AO:=
 [(o2 14 63 []),
  (o3 (.st 2 (.t 2) (.t 14)))]
abbrev Md:List AO:=
 [o1 15 (.fa 0 (.t 1)),o1 16 (.ld 1 false (.t 15)),o1 17 (.fa 2 (.t 1)),o1 18 (.ld 1 false (.t 17)),o1 19 (.bin .mul (.t 16) (.t 18)),o1 20 (.fa 1 (.t 1)),o1 21 (.ld 1 false (.t 20)),o1 22 (.fa 3 (.t 1)),o1 23 (.ld 1 false (.t 22)),o1 24 (.bin .mul (.t 21) (.t 23)),o1 25 (.bd [.n .i64 0,.n .i64 0] [(0,1,(.t 19)),(1,1,(.t 24))]),
  (o3 (.st 2 (.t 2) (.t 25)))]
abbrev EL:AF:=⟨26,(.seq (.reg Mf) (.seq (.seq (.mix Mg) (.cond (.t 13) (.seq (.reg Me) .ret) .skip)) (.seq (.reg Md) .ret))),[.ld 2 true (.t 2)]⟩
theorem xK:ax Tryz.prog (af Tryz.prog 189) 189=some EL:=by kernel_rfl
/-! interval.operands.div-/
abbrev Mb:List AO:=
 [o1 1 (.bx 262 0 (.t 0)),o1 2 (.al 127 [.n .i64 0,.n .i64 0])]
abbrev Mc:List (Nat×AO):=
 [(2,(o1 3 (.fa 0 (.t 1)))),(2,(o1 5 (.fa 3 (.t 1)))),(2,(o1 8 (.fa 1 (.t 1)))),(2,(o1 10 (.fa 2 (.t 1)))),(1,(o1 4 (.ld 1 false (.t 3)))),(1,(o1 6 (.ld 1 false (.t 5)))),(2,(o1 7 (.bin .quo (.t 4) (.t 6)))),(1,(o1 9 (.ld 1 false (.t 8)))),(1,(o1 11 (.ld 1 false (.t 10)))),(2,(o1 12 (.bin .quo (.t 9) (.t 11)))),(2,(o1 13 (.bd [.n .i64 0,.n .i64 0] [(0,1,(.t 7)),(1,1,(.t 12))]))),
  (3,(o3 (.st 2 (.t 2) (.t 13))))]
abbrev EK:AF:=⟨14,(.seq (.reg Mb) (.seq (.mix Mc) .ret)),[.ld 2 true (.t 2)]⟩
theorem xJ:ax Tryz.prog (af Tryz.prog 190) 190=some EK:=by kernel_rfl
/-! interval.operands.mod-/
abbrev Ma:List AO:=
 [o1 1 (.bx 262 0 (.t 0)),o1 2 (.al 127 [.n .i64 0,.n .i64 0])]
abbrev L9:List AO:=
 [o1 3 (.fa 1 (.t 1)),o1 4 (.ld 1 false (.t 3)),o1 5 (.fa 2 (.t 1)),o1 6 (.ld 1 false (.t 5)),o1 7 (.bin .lss (.t 4) (.t 6))]
abbrev L8:List AO:=
 [o1 8 (.fa 0 (.t 1)),o1 9 (.ld 1 false (.t 8)),o1 10 (.fa 1 (.t 1)),o1 11 (.ld 1 false (.t 10)),o1 12 (.bd [.n .i64 0,.n .i64 0] [(0,1,(.t 9)),(1,1,(.t 11))]),
  (o3 (.st 2 (.t 2) (.t 12)))]
abbrev L7:List AO:=
 [o1 13 (.fa 1 (.t 1)),o1 14 (.ld 1 false (.t 13)),o1 15 (.fa 3 (.t 1)),o1 16 (.ld 1 false (.t 15)),o1 17 (.bin .sub (.t 16) (ci 1)),⟨some 18,none,.mo (.mi (.t 14) (.t 17))⟩,o1 19 (.bd [.n .i64 0,.n .i64 0] [(1,1,(.t 18))]),
  (o3 (.st 2 (.t 2) (.t 19)))]
abbrev EJ:AF:=⟨20,(.seq (.reg Ma) (.seq (.seq (.reg L9) (.cond (.t 7) (.seq (.reg L8) .ret) .skip)) (.seq (.reg L7) .ret))),[.ld 2 true (.t 2)]⟩
theorem xI:ax Tryz.prog (af Tryz.prog 191) 191=some EJ:=by kernel_rfl
/-! interval.operands.and-/
abbrev L6:List AO:=
 [o1 1 (.bx 262 0 (.t 0)),o1 2 (.al 127 [.n .i64 0,.n .i64 0])]
abbrev L5:List AO:=
 [o1 3 (.fa 1 (.t 1)),o1 4 (.ld 1 false (.t 3)),o1 5 (.fa 3 (.t 1)),o1 6 (.ld 1 false (.t 5)),⟨some 7,none,.mo (.mi (.t 4) (.t 6))⟩,o1 8 (.bd [.n .i64 0,.n .i64 0] [(1,1,(.t 7))]),
  (o3 (.st 2 (.t 2) (.t 8)))]
abbrev EI:AF:=⟨9,(.seq (.reg L6) (.seq (.reg L5) .ret)),[.ld 2 true (.t 2)]⟩
theorem xH:ax Tryz.prog (af Tryz.prog 192) 192=some EI:=by kernel_rfl
/-! interval.operands.or-/
abbrev L3:List AO:=
 [o1 1 (.bx 262 0 (.t 0)),o1 2 (.al 127 [.n .i64 0,.n .i64 0])]
abbrev L4:List (Nat×AO):=
 [(2,(o1 3 (.fa 0 (.t 1)))),(1,(o1 4 (.ld 1 false (.t 3)))),(2,(o1 5 (.fa 2 (.t 1)))),(1,(o1 6 (.ld 1 false (.t 5)))),(2,(o1 8 (.fa 1 (.t 1)))),(1,(o1 9 (.ld 1 false (.t 8)))),(2,(o1 10 (.fa 3 (.t 1)))),(1,(o1 11 (.ld 1 false (.t 10))))]
abbrev L1:AT:=
 (.alt ⟨some 7,none,.mo (.mx (.t 4) (.t 6))⟩ (.alt ⟨some 12,none,.mo (.mx (.t 9) (.t 11))⟩ (.alt (o2 13 228 [.t 12]) (.alt (o1 14 (.bd [.n .i64 0,.n .i64 0] [(0,1,(.t 7)),(1,1,(.t 13))])) (.alt (o3 (.st 2 (.t 2) (.t 14))) .fin .none) .none) .none) .none) (.alt ⟨some 12,none,.mo (.mx (.t 9) (.t 11))⟩ (.alt ⟨some 7,none,.mo (.mx (.t 4) (.t 6))⟩ (.alt (o2 13 228 [.t 12]) (.alt (o1 14 (.bd [.n .i64 0,.n .i64 0] [(0,1,(.t 7)),(1,1,(.t 13))])) (.alt (o3 (.st 2 (.t 2) (.t 14))) .fin .none) .none) .none) (.alt (o2 13 228 [.t 12]) (.alt ⟨some 7,none,.mo (.mx (.t 4) (.t 6))⟩ (.alt (o1 14 (.bd [.n .i64 0,.n .i64 0] [(0,1,(.t 7)),(1,1,(.t 13))])) (.alt (o3 (.st 2 (.t 2) (.t 14))) .fin .none) .none) .none) .none)) .none))
abbrev EH:AF:=⟨15,(.seq (.reg L3) (.seq (.frk L4 L1) .ret)),[.ld 2 true (.t 2)]⟩
theorem xG:ax Tryz.prog (af Tryz.prog 193) 193=some EH:=by kernel_rfl
/-! interval.operands.xor-/
abbrev L0:List AO:=
 [o1 1 (.bx 262 0 (.t 0)),o1 2 (.al 127 [.n .i64 0,.n .i64 0])]
abbrev LZ:List AO:=
 [o1 3 (.fa 1 (.t 1)),o1 4 (.ld 1 false (.t 3)),o1 5 (.fa 3 (.t 1)),o1 6 (.ld 1 false (.t 5)),⟨some 7,none,.mo (.mx (.t 4) (.t 6))⟩,
  (o2 8 228 [.t 7]),o1 9 (.bd [.n .i64 0,.n .i64 0] [(1,1,(.t 8))]),
  (o3 (.st 2 (.t 2) (.t 9)))]
abbrev EG:AF:=⟨10,(.seq (.reg L0) (.seq (.reg LZ) .ret)),[.ld 2 true (.t 2)]⟩
theorem xF:ax Tryz.prog (af Tryz.prog 194) 194=some EG:=by kernel_rfl
/-! interval.operands.shl-/
abbrev LW:List AO:=
 [o1 1 (.bx 262 0 (.t 0)),o1 2 (.al 127 [.n .i64 0,.n .i64 0])]
abbrev LU:List AO:=
 [o1 4 (.fa 2 (.t 1)),o1 5 (.ld 1 false (.t 4)),o1 6 (.bin .rem (.t 5) (ci 32)),
  (mt 3 6)]
abbrev LY:List (Nat×AO):=
 [(2,(o1 7 (.fa 2 (.t 1)))),(2,(o1 9 (.fa 3 (.t 1)))),(1,(o1 8 (.ld 1 false (.t 7)))),(1,(o1 10 (.ld 1 false (.t 9)))),(2,(o1 11 (.bin .neq (.t 8) (.t 10)))),
  (2,(mt 12 11)),
  (2,(o4 13 12 (.fa 1 (.t 1)))),
  (2,(o4 15 12 (.mv (.t 3)))),
  (2,(o4 16 12 (.bin .shr (ci 4294967295) (.t 15)))),
  (1,(o4 14 12 (.ld 1 false (.t 13)))),
  (2,(o4 17 12 (.bin .gtr (.t 14) (.t 16)))),(2,(o1 18 (.pick (.t 12) (.c (.b true)) (.t 17))))]
abbrev LS:List AO:=
 [(o2 19 63 []),
  (o3 (.st 2 (.t 2) (.t 19)))]
abbrev LX:List (Nat×AO):=
 [(2,(o1 20 (.fa 0 (.t 1)))),
  (2,(mt 22 3)),(2,(o1 24 (.fa 1 (.t 1)))),
  (2,(mt 26 3)),(1,(o1 21 (.ld 1 false (.t 20)))),(2,(o1 23 (.bin .shl (.t 21) (.t 22)))),(1,(o1 25 (.ld 1 false (.t 24)))),(2,(o1 27 (.bin .shl (.t 25) (.t 26)))),(2,(o1 28 (.bd [.n .i64 0,.n .i64 0] [(0,1,(.t 23)),(1,1,(.t 27))]))),
  (3,(o3 (.st 2 (.t 2) (.t 28))))]
abbrev EF:AF:=⟨29,(.seq (.reg LW) (.seq (.reg LU) (.seq (.seq (.mix LY) (.cond (.t 18) (.seq (.reg LS) .ret) .skip)) (.seq (.mix LX) .ret)))),[.ld 2 true (.t 2)]⟩
theorem xE:ax Tryz.prog (af Tryz.prog 195) 195=some EF:=by kernel_rfl
/-! interval.operands.shr-/
abbrev LN:List AO:=
 [o1 1 (.bx 262 0 (.t 0)),o1 2 (.al 127 [.n .i64 0,.n .i64 0])]
abbrev LM:List AO:=
 [o1 4 (.fa 3 (.t 1)),o1 5 (.ld 1 false (.t 4)),o1 6 (.bin .leq (.t 5) (ci 31)),
  (mt 3 6)]
abbrev LP:List (Nat×AO):=
 [(2,(o1 7 (.fa 0 (.t 1)))),(2,(o1 9 (.fa 3 (.t 1)))),(2,(o1 12 (.fa 1 (.t 1)))),(2,(o1 14 (.fa 2 (.t 1)))),(1,(o1 8 (.ld 1 false (.t 7)))),(1,(o1 10 (.ld 1 false (.t 9)))),(2,(o1 11 (.bin .shr (.t 8) (.t 10)))),(1,(o1 13 (.ld 1 false (.t 12)))),(1,(o1 15 (.ld 1 false (.t 14)))),(2,(o1 16 (.bin .shr (.t 13) (.t 15)))),(2,(o1 17 (.bd [.n .i64 0,.n .i64 0] [(0,1,(.t 11)),(1,1,(.t 16))]))),
  (3,(o3 (.st 2 (.t 2) (.t 17))))]
abbrev LL:List AO:=
 [o1 19 (.fa 2 (.t 1)),o1 20 (.ld 1 false (.t 19)),o1 21 (.fa 3 (.t 1)),o1 22 (.ld 1 false (.t 21)),o1 23 (.bin .eql (.t 20) (.t 22)),
  (mt 18 23)]
abbrev LO:List (Nat×AO):=
 [(2,(o1 24 (.fa 0 (.t 1)))),(2,(o1 26 (.fa 2 (.t 1)))),(2,(o1 30 (.fa 1 (.t 1)))),(2,(o1 32 (.fa 2 (.t 1)))),(1,(o1 25 (.ld 1 false (.t 24)))),(1,(o1 27 (.ld 1 false (.t 26)))),(2,(o1 28 (.bin .rem (.t 27) (ci 32)))),(2,(o1 29 (.bin .shr (.t 25) (.t 28)))),(1,(o1 31 (.ld 1 false (.t 30)))),(1,(o1 33 (.ld 1 false (.t 32)))),(2,(o1 34 (.bin .rem (.t 33) (ci 32)))),(2,(o1 35 (.bin .shr (.t 31) (.t 34)))),(2,(o1 36 (.bd [.n .i64 0,.n .i64 0] [(0,1,(.t 29)),(1,1,(.t 35))]))),
  (3,(o3 (.st 2 (.t 2) (.t 36))))]
abbrev LQ:AC:=
 (.seq (.reg LM) (.cond (.t 3) (.seq (.mix LP) .ret) (.seq (.reg LL) (.cond (.t 18) (.seq (.mix LO) .ret) .skip))))
abbrev LK:List AO:=
 [o1 37 (.fa 1 (.t 1)),o1 38 (.ld 1 false (.t 37)),o1 39 (.bd [.n .i64 0,.n .i64 0] [(1,1,(.t 38))]),
  (o3 (.st 2 (.t 2) (.t 39)))]
abbrev EE:AF:=⟨40,(.seq (.reg LN) (.seq (.block 0 LQ) (.seq (.reg LK) .ret))),[.ld 2 true (.t 2)]⟩
theorem xD:ax Tryz.prog (af Tryz.prog 196) 196=some EE:=by kernel_rfl
/-! interval.operands.least-/
abbrev LJ:List AO:=
 [o1 1 (.bx 262 0 (.t 0)),o1 2 (.al 127 [.n .i64 0,.n .i64 0])]
abbrev LI:List AO:=
 [o1 3 (.fa 0 (.t 1)),o1 4 (.ld 1 false (.t 3)),o1 5 (.fa 2 (.t 1)),o1 6 (.ld 1 false (.t 5)),⟨some 7,none,.mo (.mi (.t 4) (.t 6))⟩,o1 8 (.fa 1 (.t 1)),o1 9 (.ld 1 false (.t 8)),o1 10 (.fa 3 (.t 1)),o1 11 (.ld 1 false (.t 10)),⟨some 12,none,.mo (.mi (.t 9) (.t 11))⟩,o1 13 (.bd [.n .i64 0,.n .i64 0] [(0,1,(.t 7)),(1,1,(.t 12))]),
  (o3 (.st 2 (.t 2) (.t 13)))]
abbrev ED:AF:=⟨14,(.seq (.reg LJ) (.seq (.reg LI) .ret)),[.ld 2 true (.t 2)]⟩
theorem xC:ax Tryz.prog (af Tryz.prog 197) 197=some ED:=by kernel_rfl
/-! interval.operands.greatest-/
abbrev LH:List AO:=
 [o1 1 (.bx 262 0 (.t 0)),o1 2 (.al 127 [.n .i64 0,.n .i64 0])]
abbrev LG:List AO:=
 [o1 3 (.fa 0 (.t 1)),o1 4 (.ld 1 false (.t 3)),o1 5 (.fa 2 (.t 1)),o1 6 (.ld 1 false (.t 5)),⟨some 7,none,.mo (.mx (.t 4) (.t 6))⟩,o1 8 (.fa 1 (.t 1)),o1 9 (.ld 1 false (.t 8)),o1 10 (.fa 3 (.t 1)),o1 11 (.ld 1 false (.t 10)),⟨some 12,none,.mo (.mx (.t 9) (.t 11))⟩,o1 13 (.bd [.n .i64 0,.n .i64 0] [(0,1,(.t 7)),(1,1,(.t 12))]),
  (o3 (.st 2 (.t 2) (.t 13)))]
abbrev EC:AF:=⟨14,(.seq (.reg LH) (.seq (.reg LG) .ret)),[.ld 2 true (.t 2)]⟩
theorem xB:ax Tryz.prog (af Tryz.prog 198) 198=some EC:=by kernel_rfl
/-! interval.operands.hash-/
abbrev LF:List AO:=
 [o1 1 (.bx 262 0 (.t 0)),o1 2 (.al 127 [.n .i64 0,.n .i64 0])]
abbrev LD:List AO:=
 [(o2 3 63 []),
  (o3 (.st 2 (.t 2) (.t 3)))]
abbrev EB:AF:=⟨4,(.seq (.reg LF) (.seq (.reg LD) .ret)),[.ld 2 true (.t 2)]⟩
theorem xA:ax Tryz.prog (af Tryz.prog 199) 199=some EB:=by kernel_rfl
/-! interval.shifted-/
abbrev LB:List AO:=
 [o1 4 (.al 127 [.n .i64 0,.n .i64 0])]
abbrev LA:List AO:=
 [(mt 6 0),o1 7 (.bin .geq (.t 6) (ci 0)),
  (mt 8 7),
  (o5 9 8 (.mv (.t 1))),
  (o5 10 8 (.bin .leq (.t 9) (ci 4294967295))),o1 11 (.pick (.t 8) (.t 10) (.c (.b false))),
  (mt 5 11)]
abbrev Lz:List AO:=
 [(mt 12 0),
  (mt 13 1),o1 14 (.bd [.n .i64 0,.n .i64 0] [(0,1,(.t 12)),(1,1,(.t 13))]),
  (o3 (.st 2 (.t 4) (.t 14)))]
abbrev Ly:List AO:=
 [(mt 16 0),o1 17 (.bin .gtr (.t 16) (ci 4294967295)),
  (mt 15 17)]
abbrev Lx:List AO:=
 [(mt 18 0),o1 19 (.bin .sub (.t 18) (ci 4294967295)),o1 20 (.bin .sub (.t 19) (ci 1)),
  (mt 21 1),o1 22 (.bin .sub (.t 21) (ci 4294967295)),o1 23 (.bin .sub (.t 22) (ci 1)),o1 24 (.bd [.n .i64 0,.n .i64 0] [(0,1,(.t 20)),(1,1,(.t 23))]),
  (o3 (.st 2 (.t 4) (.t 24)))]
abbrev Lw:List AO:=
 [(mt 26 1),o1 27 (.bin .lss (.t 26) (ci 0)),
  (mt 25 27)]
abbrev Lv:List AO:=
 [(mt 28 0),o1 29 (.bin .add (.t 28) (ci 4294967295)),o1 30 (.bin .add (.t 29) (ci 1)),
  (mt 31 1),o1 32 (.bin .add (.t 31) (ci 4294967295)),o1 33 (.bin .add (.t 32) (ci 1)),o1 34 (.bd [.n .i64 0,.n .i64 0] [(0,1,(.t 30)),(1,1,(.t 33))]),
  (o3 (.st 2 (.t 4) (.t 34)))]
abbrev LC:AC:=
 (.seq (.reg LA) (.cond (.t 5) (.seq (.reg Lz) .ret) (.seq (.reg Ly) (.cond (.t 15) (.seq (.reg Lx) .ret) (.seq (.reg Lw) (.cond (.t 25) (.seq (.reg Lv) .ret) .skip))))))
abbrev Lu:List AO:=
 [(o2 35 63 []),
  (o3 (.st 2 (.t 4) (.t 35)))]
abbrev EA:AF:=⟨36,(.seq (.reg LB) (.seq (.block 0 LC) (.seq (.reg Lu) .ret))),[.ld 2 true (.t 4)]⟩
theorem xz:ax Tryz.prog (af Tryz.prog 227) 227=some EA:=by kernel_rfl
/-! interval.ones-/
abbrev Ls:List AO:=
 [o1 2 (.mv (ci 0))]
abbrev Lr:List AO:=
 [(mt 3 0),o1 4 (.cvi .u64 (.t 3)),
  (o2 5 175 [.t 4]),o1 6 (.bin .shl (ci 1) (.t 5)),o1 7 (.bin .sub (.t 6) (ci 1)),
  (mt 2 7)]
abbrev Ez:AF:=⟨8,(.seq (.reg Ls) (.seq (.reg Lr) .ret)),[.mv (.t 2)]⟩
theorem xy:ax Tryz.prog (af Tryz.prog 228) 228=some Ez:=by kernel_rfl
/-! instruction.combinations$1-/
abbrev Lq:List AO:=
 [o1 4 (.mv (.c (.n .u32 0)))]
abbrev Lp:List AO:=
 [(mt 5 0),
  (mt 6 1),o1 7 (.bin .add (.t 5) (.t 6)),
  (mt 4 7)]
abbrev Ey:AF:=⟨8,(.seq (.reg Lq) (.seq (.reg Lp) .ret)),[.mv (.t 4)]⟩
theorem xw:ax Tryz.prog (af Tryz.prog 202) 202=some Ey:=by kernel_rfl
/-! instruction.combinations$2-/
abbrev Lo:List AO:=
 [o1 4 (.mv (.c (.n .u32 0)))]
abbrev Ln:List AO:=
 [(mt 5 0),
  (mt 6 1),o1 7 (.bin .sub (.t 5) (.t 6)),
  (mt 4 7)]
abbrev Ex:AF:=⟨8,(.seq (.reg Lo) (.seq (.reg Ln) .ret)),[.mv (.t 4)]⟩
theorem xv:ax Tryz.prog (af Tryz.prog 203) 203=some Ex:=by kernel_rfl
/-! instruction.combinations$3-/
abbrev Lm:List AO:=
 [o1 4 (.mv (.c (.n .u32 0)))]
abbrev Ll:List AO:=
 [(mt 5 0),
  (mt 6 1),o1 7 (.bin .mul (.t 5) (.t 6)),
  (mt 4 7)]
abbrev Ev:AF:=⟨8,(.seq (.reg Lm) (.seq (.reg Ll) .ret)),[.mv (.t 4)]⟩
theorem xu:ax Tryz.prog (af Tryz.prog 204) 204=some Ev:=by kernel_rfl
/-! instruction.combinations$4-/
abbrev Lk:List AO:=
 [o1 4 (.mv (.c (.n .u32 0)))]
abbrev Lj:List AO:=
 [(mt 5 0),
  (mt 6 1),o1 7 (.bin .quo (.t 5) (.t 6)),
  (mt 4 7)]
abbrev Eu:AF:=⟨8,(.seq (.reg Lk) (.seq (.reg Lj) .ret)),[.mv (.t 4)]⟩
theorem xt:ax Tryz.prog (af Tryz.prog 205) 205=some Eu:=by kernel_rfl
/-! instruction.combinations$5-/
abbrev Li:List AO:=
 [o1 4 (.mv (.c (.n .u32 0)))]
abbrev Lh:List AO:=
 [(mt 5 0),
  (mt 6 1),o1 7 (.bin .rem (.t 5) (.t 6)),
  (mt 4 7)]
abbrev Et:AF:=⟨8,(.seq (.reg Li) (.seq (.reg Lh) .ret)),[.mv (.t 4)]⟩
theorem xr:ax Tryz.prog (af Tryz.prog 206) 206=some Et:=by kernel_rfl
/-! instruction.combinations$6-/
abbrev Lg:List AO:=
 [o1 4 (.mv (.c (.n .u32 0)))]
abbrev Lf:List AO:=
 [(mt 5 0),
  (mt 6 1),o1 7 (.bin .and (.t 5) (.t 6)),
  (mt 4 7)]
abbrev Es:AF:=⟨8,(.seq (.reg Lg) (.seq (.reg Lf) .ret)),[.mv (.t 4)]⟩
theorem xq:ax Tryz.prog (af Tryz.prog 207) 207=some Es:=by kernel_rfl
/-! instruction.combinations$7-/
abbrev Ld:List AO:=
 [o1 4 (.mv (.c (.n .u32 0)))]
abbrev Lc:List AO:=
 [(mt 5 0),
  (mt 6 1),o1 7 (.bin .or (.t 5) (.t 6)),
  (mt 4 7)]
abbrev Ep:AF:=⟨8,(.seq (.reg Ld) (.seq (.reg Lc) .ret)),[.mv (.t 4)]⟩
theorem xp:ax Tryz.prog (af Tryz.prog 208) 208=some Ep:=by kernel_rfl
/-! instruction.combinations$8-/
abbrev Lb:List AO:=
 [o1 4 (.mv (.c (.n .u32 0)))]
abbrev La:List AO:=
 [(mt 5 0),
  (mt 6 1),o1 7 (.bin .xor (.t 5) (.t 6)),
  (mt 4 7)]
abbrev Eo:AF:=⟨8,(.seq (.reg Lb) (.seq (.reg La) .ret)),[.mv (.t 4)]⟩
theorem xo:ax Tryz.prog (af Tryz.prog 209) 209=some Eo:=by kernel_rfl
/-! instruction.combinations$9-/
abbrev K9:List AO:=
 [o1 4 (.mv (.c (.n .u32 0)))]
abbrev K8:List AO:=
 [(mt 5 0),
  (mt 6 1),o1 7 (.bin .rem (.t 6) (.c (.n .u32 32))),o1 8 (.bin .shl (.t 5) (.t 7)),
  (mt 4 8)]
abbrev En:AF:=⟨9,(.seq (.reg K9) (.seq (.reg K8) .ret)),[.mv (.t 4)]⟩
theorem xk:ax Tryz.prog (af Tryz.prog 210) 210=some En:=by kernel_rfl
/-! instruction.combinations$10-/
abbrev K7:List AO:=
 [o1 4 (.mv (.c (.n .u32 0)))]
abbrev K6:List AO:=
 [(mt 5 0),
  (mt 6 1),o1 7 (.bin .rem (.t 6) (.c (.n .u32 32))),o1 8 (.bin .shr (.t 5) (.t 7)),
  (mt 4 8)]
abbrev Em:AF:=⟨9,(.seq (.reg K7) (.seq (.reg K6) .ret)),[.mv (.t 4)]⟩
theorem xj:ax Tryz.prog (af Tryz.prog 211) 211=some Em:=by kernel_rfl
/-! instruction.combinations$11-/
abbrev K5:List AO:=
 [o1 4 (.mv (.c (.n .u32 0)))]
abbrev K4:List AO:=
 [(mt 5 0),
  (mt 6 1),⟨some 7,none,.mo (.mi (.t 5) (.t 6))⟩,
  (mt 4 7)]
abbrev El:AF:=⟨8,(.seq (.reg K5) (.seq (.reg K4) .ret)),[.mv (.t 4)]⟩
theorem xi:ax Tryz.prog (af Tryz.prog 212) 212=some El:=by kernel_rfl
/-! instruction.combinations$12-/
abbrev K3:List AO:=
 [o1 4 (.mv (.c (.n .u32 0)))]
abbrev K2:List AO:=
 [(mt 5 0),
  (mt 6 1),⟨some 7,none,.mo (.mx (.t 5) (.t 6))⟩,
  (mt 4 7)]
abbrev Ek:AF:=⟨8,(.seq (.reg K3) (.seq (.reg K2) .ret)),[.mv (.t 4)]⟩
theorem xh:ax Tryz.prog (af Tryz.prog 213) 213=some Ek:=by kernel_rfl
/-! instruction.hash-/
abbrev K1:List AO:=
 [o1 4 (.mv (.c (.n .u32 0)))]
abbrev K0:List AO:=
 [(mt 6 0),
  (mt 7 1),o1 8 (.bin .mul (.t 7) (.c (.n .u32 2654435761))),o1 9 (.bin .xor (.t 6) (.t 8)),o1 10 (.bin .mul (.t 9) (.c (.n .u32 2246822519))),
  (mt 5 10)]
abbrev KZ:List AO:=
 [(mt 11 5),
  (mt 12 5),o1 13 (.bin .shr (.t 12) (.c (.n .u64 16))),o1 14 (.bin .xor (.t 11) (.t 13)),
  (mt 4 14)]
abbrev Ei:AF:=⟨15,(.seq (.reg K1) (.seq (.reg K0) (.seq (.reg KZ) .ret))),[.mv (.t 4)]⟩
theorem xg:ax Tryz.prog (af Tryz.prog 214) 214=some Ei:=by kernel_rfl
/-! instruction.combinations$13-/
abbrev KX:List AO:=
 [o1 4 (.mv (.c (.n .u32 0)))]
abbrev KW:List AO:=
 [(mt 5 0),
  (mt 6 1),o1 7 (.bin .eql (.t 5) (.t 6)),
  (o2 8 69 [.t 7]),
  (mt 4 8)]
abbrev Eh:AF:=⟨9,(.seq (.reg KX) (.seq (.reg KW) .ret)),[.mv (.t 4)]⟩
theorem KY:ax Tryz.prog (af Tryz.prog 215) 215=some Eh:=by kernel_rfl
/-! instruction.combinations$14-/
abbrev KU:List AO:=
 [o1 4 (.mv (.c (.n .u32 0)))]
abbrev KT:List AO:=
 [(mt 5 0),
  (mt 6 1),o1 7 (.bin .lss (.t 5) (.t 6)),
  (o2 8 69 [.t 7]),
  (mt 4 8)]
abbrev Eg:AF:=⟨9,(.seq (.reg KU) (.seq (.reg KT) .ret)),[.mv (.t 4)]⟩
theorem KV:ax Tryz.prog (af Tryz.prog 216) 216=some Eg:=by kernel_rfl
/-! instruction.combinations$15-/
abbrev KR:List AO:=
 [o1 4 (.mv (.c (.n .u32 0)))]
abbrev KQ:List AO:=
 [(mt 5 0),o1 6 (.bin .eql (.t 5) (.c (.n .u32 0))),
  (o2 7 69 [.t 6]),
  (mt 4 7)]
abbrev Ef:AF:=⟨8,(.seq (.reg KR) (.seq (.reg KQ) .ret)),[.mv (.t 4)]⟩
theorem KS:ax Tryz.prog (af Tryz.prog 217) 217=some Ef:=by kernel_rfl
/-! instruction.combinations$16-/
abbrev KO:List AO:=
 [o1 4 (.mv (.c (.n .u32 0)))]
abbrev KN:List AO:=
 [(mt 5 0),o1 6 (.bin .neq (.t 5) (.c (.n .u32 0))),
  (mt 7 6),
  (o5 8 7 (.mv (.t 1))),
  (o5 9 7 (.bin .neq (.t 8) (.c (.n .u32 0)))),o1 10 (.pick (.t 7) (.t 9) (.c (.b false))),
  (o2 11 69 [.t 10]),
  (mt 4 11)]
abbrev Ee:AF:=⟨12,(.seq (.reg KO) (.seq (.reg KN) .ret)),[.mv (.t 4)]⟩
theorem KP:ax Tryz.prog (af Tryz.prog 218) 218=some Ee:=by kernel_rfl
/-! instruction.combinations$17-/
abbrev KL:List AO:=
 [o1 4 (.mv (.c (.n .u32 0)))]
abbrev KK:List AO:=
 [(mt 5 0),o1 6 (.bin .neq (.t 5) (.c (.n .u32 0))),
  (mt 7 6),
  (o4 8 7 (.mv (.t 1))),
  (o4 9 7 (.bin .neq (.t 8) (.c (.n .u32 0)))),o1 10 (.pick (.t 7) (.c (.b true)) (.t 9)),
  (o2 11 69 [.t 10]),
  (mt 4 11)]
abbrev Ed:AF:=⟨12,(.seq (.reg KL) (.seq (.reg KK) .ret)),[.mv (.t 4)]⟩
theorem KM:ax Tryz.prog (af Tryz.prog 219) 219=some Ed:=by kernel_rfl
/-! instruction.combinations$18-/
abbrev KI:List AO:=
 [o1 4 (.mv (.c (.n .u32 0)))]
abbrev KH:List AO:=
 [(mt 5 0),o1 6 (.bin .neq (.t 5) (.c (.n .u32 0))),
  (o2 7 69 [.t 6]),
  (mt 4 7)]
abbrev Ec:AF:=⟨8,(.seq (.reg KI) (.seq (.reg KH) .ret)),[.mv (.t 4)]⟩
theorem KJ:ax Tryz.prog (af Tryz.prog 220) 220=some Ec:=by kernel_rfl
end Go.Proofs.YtdpkgnmmikebdaaGreat