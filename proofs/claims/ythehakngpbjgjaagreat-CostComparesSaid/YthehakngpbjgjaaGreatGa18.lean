/- A part of the proof of CostCompares: AcCsF. No condition. -/
import Derived.Test.YthehakngpbjgjaaGreatGa14
import Derived.Test.YthehakngpbjgjaaGreatProg
set_option linter.unusedSimpArgs false
set_option linter.unusedVariables false
set_option linter.constructorNameAsVariable false
set_option maxRecDepth 100000
set_option maxHeartbeats 4000000
namespace Go.Proofs.YthehakngpbjgjaaGreat
open Go.RowKit
/-! compactorlaw21.CostMemory-/
abbrev DB:List AO:=
 [o1 1 (.bx 25 0 (.t 0)),o1 2 (.mv (.c (.b false)))]
abbrev DA:List AO:=
 [o1 7 (.ld 3 true (.t 1)),
  (o2 8 7 [.t 7]),o1 9 (.un .not (.t 8))]
abbrev Dz:List AO:=
 [(o2 10 8 []),
  (mt 2 10)]
abbrev Dy:List AO:=
 [o1 12 (.ld 3 true (.t 1)),
  (o2 13 9 [.t 12]),
  (mt 11 13),o1 14 (.ext 0 (.t 11)),o1 15 (.ext 1 (.t 11)),
  (mt 3 14),
  (mt 4 15)]
abbrev Dx:List AO:=
 [o1 17 (.ld 3 true (.t 1)),
  (o2 18 10 [.t 17]),
  (mt 16 18),o1 19 (.ext 0 (.t 16)),o1 20 (.ext 1 (.t 16)),
  (mt 5 19),
  (mt 6 20)]
abbrev Dw:List AO:=
 [(mt 21 3),
  (mt 22 5),o1 23 (.bin .eql (.t 21) (.t 22)),
  (mt 24 23),
  (o5 25 24 (.mv (.t 4))),
  (o5 26 24 (.mv (.t 6))),
  (o5 27 24 (.bin .eql (.t 25) (.t 26))),o1 28 (.pick (.t 24) (.t 27) (.c (.b false))),
  (mt 29 28),⟨some 30,some (29,true),.cl (.c (.f 8 [] [])) []⟩,o1 31 (.pick (.t 29) (.t 30) (.c (.b false))),
  (mt 2 31)]
abbrev DD:AF:=⟨32,(.seq (.reg DB) (.seq (.seq (.reg DA) (.cond (.t 9) (.seq (.reg Dz) .ret) .skip)) (.seq (.reg Dy) (.seq (.reg Dx) (.seq (.reg Dw) .ret))))),[.mv (.t 2)]⟩
theorem DC:ab Tryz.prog (aa Tryz.prog 3) 3=some DD:=by kernel_rfl
/-! compactorlaw21.CostCompares-/
abbrev Dt:List AO:=
 [o1 2 (.bx 34 0 (.t 0)),o1 3 (.bx 34 0 (.t 1)),o1 4 (.mv (.c (.b false)))]
abbrev Du:List (Nat×AO):=
 [(1,(o1 5 (.ld 2 true (.t 2)))),(1,(o1 6 (.ld 2 true (.t 3)))),(1,(o1 8 (.ld 2 true (.t 2)))),(1,(o1 9 (.ld 2 true (.t 3)))),
  (0,(o2 7 11 [.t 5,.t 6])),
  (0,(o2 10 12 [.t 8,.t 9])),(2,(o1 11 (.eq false (.st [(0,1,.n),(1,1,.n)]) (.t 7) (.t 10)))),
  (2,(mt 12 11)),
  (1,(o5 13 12 (.ld 2 true (.t 2)))),
  (1,(o5 14 12 (.ld 2 true (.t 3)))),
  (1,(o5 16 12 (.ld 2 true (.t 2)))),
  (1,(o5 17 12 (.ld 2 true (.t 3)))),(0,⟨some 15,some (12,true),.cl (.c (.f 13 [] [])) [.t 13,.t 14]⟩),(3,⟨some 18,some (12,true),.cl (.c (.f 14 [] [])) [.t 16,.t 17]⟩),
  (2,(o5 19 12 (.eq false .b (.t 15) (.t 18)))),(2,(o1 20 (.pick (.t 12) (.t 19) (.c (.b false))))),
  (2,(mt 21 20)),(3,⟨some 22,some (21,true),.cl (.c (.f 8 [] [])) []⟩),(2,(o1 23 (.pick (.t 21) (.t 22) (.c (.b false))))),
  (2,(mt 4 23))]
abbrev Dv:AF:=⟨24,(.seq (.reg Dt) (.seq (.mix Du) .ret)),[.mv (.t 4)]⟩
theorem oH:ab Tryz.prog (aa Tryz.prog 4) 4=some Dv:=by kernel_rfl
/-! compactorlaw21.CostOrders-/
abbrev Dl:List AO:=
 [o1 1 (.bx 39 0 (.t 0)),o1 2 (.mv (.c (.b false)))]
abbrev Dk:List AO:=
 [o1 3 (.al 40 [.n .i64 0,.n .i64 0,.n .i64 0,.n .i64 0,.n .i64 0,.n .i64 0])]
abbrev Dj:List AO:=
 [o1 6 (.mv (ci 0))]
abbrev Di:List AO:=
 [o1 7 (.bin .lss (.t 6) (ci 3))]
abbrev Dh:List AO:=
 [(mt 8 6),
  (mt 4 8)]
abbrev Dn:List (Nat×AO):=
 [(2,(mt 9 4)),
  (2,(mt 10 4)),(2,(o1 11 (.iaa 3 2 (.t 1) (.t 10)))),(2,(o1 12 (.iaa 2 1 (.t 11) (ci 0)))),
  (2,(mt 15 4)),(2,(o1 16 (.iaa 3 2 (.t 1) (.t 15)))),(2,(o1 17 (.iaa 2 1 (.t 16) (ci 1)))),(1,(o1 13 (.ld 1 false (.t 12)))),(2,(o1 14 (.cvi .i64 (.t 13)))),(1,(o1 18 (.ld 1 false (.t 17)))),(2,(o1 19 (.cvi .i64 (.t 18)))),(2,(o1 20 (.bd [.n .i64 0,.n .i64 0] [(0,1,(.t 14)),(1,1,(.t 19))]))),(2,(o1 21 (.iaa 3 2 (.t 3) (.t 9)))),
  (3,(o3 (.st 2 (.t 21) (.t 20))))]
abbrev Dq:AC:=
 (.seq (.reg Dh) (.mix Dn))
abbrev Dg:List AO:=
 [o1 22 (.bin .add (.t 6) (ci 1)),
  (mt 6 22)]
abbrev Dr:AC:=
 (.seq (.reg Di) (.seq (.cond (.t 7) .skip (.exit 0)) (.seq (.block 1 Dq) (.reg Dg))))
abbrev Dp:AC:=
 (.loop Dr)
abbrev qX:List AO:=
 [o1 23 (.iaa 3 2 (.t 3) (ci 0)),o1 24 (.ld 2 true (.t 23)),o1 25 (.iaa 3 2 (.t 3) (ci 1)),o1 26 (.ld 2 true (.t 25)),
  (o2 27 11 [.t 24,.t 26]),o1 5 (.al 34 [.n .i64 0,.n .i64 0]),
  (o3 (.st 2 (.t 5) (.t 27)))]
abbrev qW:List AO:=
 [o1 28 (.ld 2 true (.t 5)),o1 29 (.iaa 3 2 (.t 3) (ci 2)),o1 30 (.ld 2 true (.t 29)),
  (o2 31 13 [.t 28,.t 30]),
  (mt 32 31),
  (o5 33 32 (.iaa 3 2 (.t 3) (ci 0))),
  (o5 34 32 (.ld 2 true (.t 33))),
  (o5 35 32 (.iaa 3 2 (.t 3) (ci 2))),
  (o5 36 32 (.ld 2 true (.t 35))),⟨some 37,some (32,true),.cl (.c (.f 13 [] [])) [.t 34,.t 36]⟩,
  (o5 38 32 (.un .not (.t 37))),
  (o5 39 32 (.mv (.t 38))),
  (o4 40 39 (.iaa 3 2 (.t 3) (ci 1))),
  (o4 41 39 (.ld 2 true (.t 40))),
  (o4 42 39 (.iaa 3 2 (.t 3) (ci 2))),
  (o4 43 39 (.ld 2 true (.t 42))),⟨some 44,some (39,false),.cl (.c (.f 13 [] [])) [.t 41,.t 43]⟩,
  (o4 45 39 (.un .not (.t 44))),
  (o5 46 32 (.pick (.t 39) (.c (.b true)) (.t 45))),o1 47 (.pick (.t 32) (.t 46) (.c (.b false))),
  (mt 48 47),
  (o4 49 48 (.iaa 3 2 (.t 3) (ci 0))),
  (o4 50 48 (.ld 2 true (.t 49))),
  (o4 51 48 (.ld 2 true (.t 5))),⟨some 52,some (48,false),.cl (.c (.f 13 [] [])) [.t 50,.t 51]⟩,
  (o4 53 48 (.un .not (.t 52))),o1 54 (.pick (.t 48) (.c (.b true)) (.t 53)),
  (mt 55 54),
  (o4 56 55 (.iaa 3 2 (.t 3) (ci 1))),
  (o4 57 55 (.ld 2 true (.t 56))),
  (o4 58 55 (.ld 2 true (.t 5))),⟨some 59,some (55,false),.cl (.c (.f 13 [] [])) [.t 57,.t 58]⟩,
  (o4 60 55 (.un .not (.t 59))),o1 61 (.pick (.t 55) (.c (.b true)) (.t 60))]
abbrev qV:List AO:=
 [o1 2 (.mv (.c (.b false)))]
abbrev qU:List AO:=
 [o1 62 (.iaa 3 2 (.t 3) (ci 0)),o1 63 (.ld 2 true (.t 62)),o1 64 (.iaa 3 2 (.t 3) (ci 1)),o1 65 (.ld 2 true (.t 64)),
  (o2 66 13 [.t 63,.t 65]),
  (mt 67 66),
  (o5 68 67 (.iaa 3 2 (.t 3) (ci 1))),
  (o5 69 67 (.ld 2 true (.t 68))),
  (o5 70 67 (.iaa 3 2 (.t 3) (ci 2))),
  (o5 71 67 (.ld 2 true (.t 70))),⟨some 72,some (67,true),.cl (.c (.f 13 [] [])) [.t 69,.t 71]⟩,o1 73 (.pick (.t 67) (.t 72) (.c (.b false))),
  (mt 74 73),
  (o5 75 74 (.iaa 3 2 (.t 3) (ci 0))),
  (o5 76 74 (.ld 2 true (.t 75))),
  (o5 77 74 (.iaa 3 2 (.t 3) (ci 2))),
  (o5 78 74 (.ld 2 true (.t 77))),⟨some 79,some (74,true),.cl (.c (.f 13 [] [])) [.t 76,.t 78]⟩,
  (o5 80 74 (.un .not (.t 79))),o1 81 (.pick (.t 74) (.t 80) (.c (.b false)))]
abbrev qT:List AO:=
 [o1 2 (.mv (.c (.b false)))]
abbrev qY:List (Nat×AO):=
 [(2,(o1 82 (.iaa 3 2 (.t 3) (ci 1)))),(2,(o1 84 (.iaa 3 2 (.t 3) (ci 0)))),(1,(o1 83 (.ld 2 true (.t 82)))),(1,(o1 85 (.ld 2 true (.t 84)))),(1,(o1 87 (.ld 2 true (.t 5)))),
  (0,(o2 86 11 [.t 83,.t 85])),(2,(o1 88 (.eq false (.st [(0,1,.n),(1,1,.n)]) (.t 86) (.t 87)))),
  (2,(mt 89 88)),
  (2,(o5 90 89 (.iaa 3 2 (.t 3) (ci 0)))),
  (2,(o5 92 89 (.bd [.n .i64 0,.n .i64 0] []))),
  (2,(o5 94 89 (.iaa 3 2 (.t 3) (ci 0)))),
  (1,(o5 91 89 (.ld 2 true (.t 90)))),
  (1,(o5 95 89 (.ld 2 true (.t 94)))),(0,⟨some 93,some (89,true),.cl (.c (.f 11 [] [])) [.t 91,.t 92]⟩),
  (2,(o5 96 89 (.eq false (.st [(0,1,.n),(1,1,.n)]) (.t 93) (.t 95)))),(2,(o1 97 (.pick (.t 89) (.t 96) (.c (.b false))))),
  (2,(mt 98 97)),
  (2,(o5 99 98 (.iaa 3 2 (.t 3) (ci 0)))),
  (2,(o5 101 98 (.iaa 3 2 (.t 3) (ci 0)))),
  (1,(o5 100 98 (.ld 2 true (.t 99)))),
  (1,(o5 102 98 (.ld 2 true (.t 101)))),(3,⟨some 103,some (98,true),.cl (.c (.f 13 [] [])) [.t 100,.t 102]⟩),(2,(o1 104 (.pick (.t 98) (.t 103) (.c (.b false))))),
  (2,(mt 105 104)),(3,⟨some 106,some (105,true),.cl (.c (.f 8 [] [])) []⟩),(2,(o1 107 (.pick (.t 105) (.t 106) (.c (.b false))))),
  (2,(mt 2 107))]
abbrev Ds:AF:=⟨108,(.seq (.reg Dl) (.seq (.reg Dk) (.seq (.seq (.reg Dj) (.block 0 Dp)) (.seq (.reg qX) (.seq (.seq (.reg qW) (.cond (.t 61) (.seq (.reg qV) .ret) .skip)) (.seq (.seq (.reg qU) (.cond (.t 81) (.seq (.reg qT) .ret) .skip)) (.seq (.mix qY) .ret))))))),[.mv (.t 2)]⟩
theorem Dm:ab Tryz.prog (aa Tryz.prog 5) 5=some Ds:=by kernel_rfl
/-! compactorlaw21.CostBounds-/
abbrev Dd:List AO:=
 [o1 2 (.bx 25 0 (.t 0)),o1 3 (.bx 44 0 (.t 1)),o1 4 (.mv (.c (.b false)))]
abbrev Dc:List AO:=
 [o1 13 (.ld 3 true (.t 2)),o1 14 (.ld 4 true (.t 3)),
  (o2 15 15 [.t 13,.t 14]),o1 16 (.un .not (.t 15))]
abbrev Db:List AO:=
 [(o2 17 8 []),
  (mt 4 17)]
abbrev Da:List AO:=
 [o1 19 (.ld 3 true (.t 2)),o1 20 (.ld 4 true (.t 3)),
  (o2 21 16 [.t 19,.t 20]),
  (mt 18 21),o1 22 (.ext 0 (.t 18)),o1 23 (.ext 1 (.t 18)),
  (mt 5 22),
  (mt 6 23)]
abbrev C9:List AO:=
 [o1 25 (.ld 3 true (.t 2)),o1 26 (.ld 4 true (.t 3)),
  (o2 27 17 [.t 25,.t 26]),
  (mt 24 27),o1 28 (.ext 0 (.t 24)),o1 29 (.ext 1 (.t 24)),
  (mt 7 28),
  (mt 8 29)]
abbrev C8:List AO:=
 [o1 31 (.ld 3 true (.t 2)),o1 32 (.ld 4 true (.t 3)),
  (o2 33 18 [.t 31,.t 32]),
  (mt 30 33),o1 34 (.ext 0 (.t 30)),o1 35 (.ext 1 (.t 30)),
  (mt 9 34),
  (mt 10 35)]
abbrev C7:List AO:=
 [o1 37 (.ld 3 true (.t 2)),o1 38 (.ld 4 true (.t 3)),
  (o2 39 19 [.t 37,.t 38]),
  (mt 36 39),o1 40 (.ext 0 (.t 36)),o1 41 (.ext 1 (.t 36)),
  (mt 11 40),
  (mt 12 41)]
abbrev C6:List AO:=
 [(mt 42 5),
  (mt 43 7),o1 44 (.bin .eql (.t 42) (.t 43)),
  (mt 45 44),
  (o5 46 45 (.mv (.t 6))),
  (o5 47 45 (.mv (.t 8))),
  (o5 48 45 (.bin .eql (.t 46) (.t 47))),o1 49 (.pick (.t 45) (.t 48) (.c (.b false))),
  (mt 50 49),
  (o5 51 50 (.mv (.t 9))),
  (o5 52 50 (.mv (.t 11))),
  (o5 53 50 (.bin .eql (.t 51) (.t 52))),o1 54 (.pick (.t 50) (.t 53) (.c (.b false))),
  (mt 55 54),
  (o5 56 55 (.mv (.t 10))),
  (o5 57 55 (.mv (.t 12))),
  (o5 58 55 (.bin .eql (.t 56) (.t 57))),o1 59 (.pick (.t 55) (.t 58) (.c (.b false))),
  (mt 60 59),⟨some 61,some (60,true),.cl (.c (.f 8 [] [])) []⟩,o1 62 (.pick (.t 60) (.t 61) (.c (.b false))),
  (mt 4 62)]
abbrev Df:AF:=⟨63,(.seq (.reg Dd) (.seq (.seq (.reg Dc) (.cond (.t 16) (.seq (.reg Db) .ret) .skip)) (.seq (.reg Da) (.seq (.reg C9) (.seq (.reg C8) (.seq (.reg C7) (.seq (.reg C6) .ret))))))),[.mv (.t 4)]⟩
theorem De:ab Tryz.prog (aa Tryz.prog 6) 6=some Df:=by kernel_rfl
/-! compactorref15.Few-/
abbrev C1:List AO:=
 [o1 1 (.bx 25 0 (.t 0)),o1 2 (.mv (.c (.b false)))]
abbrev C0:List AO:=
 [o1 4 (.fa 0 (.t 1)),o1 5 (.ld 1 false (.t 4)),o1 6 (.len (.t 5)),o1 7 (.bin .gtr (.t 6) (ci 20)),
  (mt 8 7),
  (o4 9 8 (.fa 2 (.t 1))),
  (o4 10 8 (.ld 1 false (.t 9))),
  (o4 11 8 (.len (.t 10))),
  (o4 12 8 (.bin .gtr (.t 11) (ci 200))),o1 13 (.pick (.t 8) (.c (.b true)) (.t 12)),
  (mt 14 13),
  (o4 15 14 (.fa 2 (.t 1))),
  (o4 16 14 (.ld 1 false (.t 15))),⟨some 17,some (14,false),.cl (.c (.f 20 [] [])) [.t 16]⟩,
  (o4 18 14 (.un .not (.t 17))),o1 19 (.pick (.t 14) (.c (.b true)) (.t 18))]
abbrev CZ:List AO:=
 [o1 2 (.mv (.c (.b false)))]
abbrev CY:List AO:=
 [o1 3 (.mv (ci 0))]
abbrev CX:List AO:=
 [(mt 20 3),o1 21 (.fa 0 (.t 1)),o1 22 (.ld 1 false (.t 21)),o1 23 (.len (.t 22)),o1 24 (.bin .lss (.t 20) (.t 23))]
abbrev CW:List AO:=
 [o1 27 (.fa 0 (.t 1)),o1 28 (.ld 1 false (.t 27)),
  (mt 29 3),o1 30 (.ia 2 (.t 28) (.t 29)),o1 31 (.fa 1 (.t 30)),o1 32 (.ld 1 false (.t 31)),o1 33 (.bin .gtr (.t 32) (ci 300)),
  (mt 34 33),
  (o5 35 34 (.fa 0 (.t 1))),
  (o5 36 34 (.ld 1 false (.t 35))),
  (o5 37 34 (.mv (.t 3))),
  (o5 38 34 (.ia 2 (.t 36) (.t 37))),
  (o5 39 34 (.fa 1 (.t 38))),
  (o5 40 34 (.ld 1 false (.t 39))),
  (o5 41 34 (.bin .leq (.t 40) (ci 65536))),o1 42 (.pick (.t 34) (.t 41) (.c (.b false)))]
abbrev CV:List AO:=
 [o1 2 (.mv (.c (.b false)))]
abbrev C3:AC:=
 (.seq (.reg CW) (.cond (.t 42) (.seq (.reg CV) .ret) .skip))
abbrev CU:List AO:=
 [(mt 25 3),o1 26 (.bin .add (.t 25) (ci 1)),
  (mt 3 26)]
abbrev C4:AC:=
 (.seq (.seq (.reg CX) (.cond (.t 24) .skip (.exit 0))) (.seq (.block 1 C3) (.reg CU)))
abbrev qS:AC:=
 (.loop C4)
abbrev qR:List AO:=
 [o1 2 (.mv (.c (.b true)))]
abbrev C5:AF:=⟨43,(.seq (.reg C1) (.seq (.seq (.reg C0) (.cond (.t 19) (.seq (.reg CZ) .ret) .skip)) (.seq (.seq (.reg CY) (.block 0 qS)) (.seq (.reg qR) .ret)))),[.mv (.t 2)]⟩
theorem C2:ab Tryz.prog (aa Tryz.prog 7) 7=some C5:=by kernel_rfl
/-! compactorref21.Memory-/
abbrev CR:List AO:=
 [o1 1 (.bx 25 0 (.t 0)),o1 2 (.mv (ci 0)),o1 3 (.mv (ci 0))]
abbrev CQ:List AO:=
 [o1 7 (.ld 3 true (.t 1)),
  (o2 8 25 [.t 7]),
  (mt 4 8)]
abbrev CP:List AO:=
 [(mt 9 4),o1 10 (.bin .neq (.t 9) (ci 0))]
abbrev CO:List AO:=
 [(mt 11 4),o1 2 (.mv (ci 0)),
  (mt 3 11)]
abbrev CN:List AO:=
 [o1 12 (.fa 1 (.t 1)),o1 13 (.ld 1 false (.t 12)),o1 14 (.bin .mul (ci 4) (.t 13)),o1 15 (.bin .add (.t 14) (ci 128)),o1 16 (.bin .add (.t 15) (ci 64)),
  (mt 5 16)]
abbrev CM:List AO:=
 [o1 6 (.mv (ci 0))]
abbrev CL:List AO:=
 [(mt 17 6),o1 18 (.fa 0 (.t 1)),o1 19 (.ld 1 false (.t 18)),o1 20 (.len (.t 19)),o1 21 (.bin .lss (.t 17) (.t 20))]
abbrev CK:List AO:=
 [o1 24 (.fa 0 (.t 1)),o1 25 (.ld 1 false (.t 24)),
  (mt 26 6),o1 27 (.ia 2 (.t 25) (.t 26)),o1 28 (.fa 0 (.t 27)),o1 29 (.ld 1 false (.t 28))]
abbrev CJ:List AO:=
 [(mt 30 5),o1 31 (.fa 0 (.t 1)),o1 32 (.ld 1 false (.t 31)),
  (mt 33 6),o1 34 (.ia 2 (.t 32) (.t 33)),o1 35 (.fa 1 (.t 34)),o1 36 (.ld 1 false (.t 35)),o1 37 (.bin .mul (ci 4) (.t 36)),o1 38 (.bin .add (.t 30) (.t 37)),
  (mt 5 38)]
abbrev CI:List AO:=
 [(mt 39 5),o1 40 (.fa 0 (.t 1)),o1 41 (.ld 1 false (.t 40)),
  (mt 42 6),o1 43 (.ia 2 (.t 41) (.t 42)),o1 44 (.fa 1 (.t 43)),o1 45 (.ld 1 false (.t 44)),o1 46 (.bin .add (.t 39) (.t 45)),
  (mt 5 46)]
abbrev qP:AC:=
 (.seq (.reg CK) (.cond (.t 29) (.reg CJ) (.reg CI)))
abbrev qN:List AO:=
 [(mt 22 6),o1 23 (.bin .add (.t 22) (ci 1)),
  (mt 6 23)]
abbrev qQ:AC:=
 (.seq (.seq (.reg CL) (.cond (.t 21) .skip (.exit 0))) (.seq (.block 1 qP) (.reg qN)))
abbrev qO:AC:=
 (.loop qQ)
abbrev qM:List AO:=
 [(mt 47 5),
  (mt 2 47),o1 3 (.mv (ci 0))]
abbrev CT:AF:=⟨48,(.seq (.reg CR) (.seq (.seq (.reg CQ) (.seq (.reg CP) (.cond (.t 10) (.seq (.reg CO) .ret) .skip))) (.seq (.reg CN) (.seq (.seq (.reg CM) (.block 0 qO)) (.seq (.reg qM) .ret))))),[.mv (.t 2),.mv (.t 3)]⟩
theorem CS:ab Tryz.prog (aa Tryz.prog 10) 10=some CT:=by kernel_rfl
/-! compactorref21.Add-/
abbrev CF:List AO:=
 [o1 2 (.bx 34 0 (.t 0)),o1 3 (.bx 34 0 (.t 1)),o1 4 (.al 34 [.n .i64 0,.n .i64 0])]
abbrev CG:List (Nat×AO):=
 [(2,(o1 5 (.fa 0 (.t 2)))),(2,(o1 7 (.fa 0 (.t 3)))),(2,(o1 10 (.fa 1 (.t 2)))),(2,(o1 12 (.fa 1 (.t 3)))),(1,(o1 6 (.ld 1 false (.t 5)))),(1,(o1 8 (.ld 1 false (.t 7)))),(1,(o1 11 (.ld 1 false (.t 10)))),(1,(o1 13 (.ld 1 false (.t 12)))),
  (0,(o2 9 27 [.t 6,.t 8])),
  (3,(o2 14 27 [.t 11,.t 13])),(2,(o1 15 (.bd [.n .i64 0,.n .i64 0] [(0,1,(.t 9)),(1,1,(.t 14))]))),
  (3,(o3 (.st 2 (.t 4) (.t 15))))]
abbrev CH:AF:=⟨16,(.seq (.reg CF) (.seq (.mix CG) .ret)),[.ld 2 true (.t 4)]⟩
theorem oG:ab Tryz.prog (aa Tryz.prog 12) 12=some CH:=by kernel_rfl
/-! compactorref21.Fits-/
abbrev CD:List AO:=
 [o1 2 (.bx 34 0 (.t 0)),o1 3 (.bx 34 0 (.t 1)),o1 4 (.mv (.c (.b false)))]
abbrev CC:List AO:=
 [o1 5 (.ld 2 true (.t 2)),
  (o2 6 29 [.t 5]),
  (mt 7 6),
  (o5 8 7 (.ld 2 true (.t 3))),⟨some 9,some (7,true),.cl (.c (.f 29 [] [])) [.t 8]⟩,o1 10 (.pick (.t 7) (.t 9) (.c (.b false))),
  (mt 11 10),
  (o5 12 11 (.fa 0 (.t 2))),
  (o5 13 11 (.ld 1 false (.t 12))),
  (o5 14 11 (.fa 0 (.t 3))),
  (o5 15 11 (.ld 1 false (.t 14))),
  (o5 16 11 (.bin .leq (.t 13) (.t 15))),o1 17 (.pick (.t 11) (.t 16) (.c (.b false))),
  (mt 18 17),
  (o5 19 18 (.fa 1 (.t 2))),
  (o5 20 18 (.ld 1 false (.t 19))),
  (o5 21 18 (.fa 1 (.t 3))),
  (o5 22 18 (.ld 1 false (.t 21))),
  (o5 23 18 (.bin .leq (.t 20) (.t 22))),o1 24 (.pick (.t 18) (.t 23) (.c (.b false))),
  (mt 4 24)]
abbrev CE:AF:=⟨25,(.seq (.reg CD) (.seq (.reg CC) .ret)),[.mv (.t 4)]⟩
theorem oE:ab Tryz.prog (aa Tryz.prog 14) 14=some CE:=by kernel_rfl
/-! compactorlaw21.few-/
abbrev Cz:List AO:=
 [o1 2 (.bx 25 0 (.t 0)),o1 3 (.bx 44 0 (.t 1)),o1 4 (.mv (.c (.b false)))]
abbrev Cy:List AO:=
 [o1 5 (.ld 3 true (.t 2)),
  (o2 6 7 [.t 5]),
  (mt 7 6),
  (o5 8 7 (.ld 4 true (.t 3))),⟨some 9,some (7,true),.cl (.c (.f 30 [] [])) [.t 8]⟩,o1 10 (.pick (.t 7) (.t 9) (.c (.b false))),
  (mt 4 10)]
abbrev CB:AF:=⟨11,(.seq (.reg Cz) (.seq (.reg Cy) .ret)),[.mv (.t 4)]⟩
theorem CA:ab Tryz.prog (aa Tryz.prog 15) 15=some CB:=by kernel_rfl
/-! compactorref21.Steps-/
abbrev Cu:List AO:=
 [o1 2 (.bx 25 0 (.t 0)),o1 3 (.bx 44 0 (.t 1)),o1 4 (.mv (ci 0)),o1 5 (.mv (ci 0))]
abbrev Ct:List AO:=
 [o1 9 (.ld 3 true (.t 2)),o1 10 (.ld 4 true (.t 3)),
  (o2 11 35 [.t 9,.t 10]),
  (mt 8 11),o1 12 (.ext 0 (.t 8)),o1 13 (.ext 1 (.t 8)),
  (mt 6 12),
  (mt 7 13)]
abbrev Cs:List AO:=
 [(mt 14 7),o1 15 (.bin .neq (.t 14) (ci 0))]
abbrev Cr:List AO:=
 [(mt 16 7),o1 4 (.mv (ci 0)),
  (mt 5 16)]
abbrev Cq:List AO:=
 [(mt 17 6),o1 18 (.ld 4 true (.t 3)),
  (o2 19 37 [.t 17,.t 18]),
  (o2 20 36 [.t 19]),o1 21 (.ext 0 (.t 20)),o1 22 (.ext 1 (.t 20)),
  (mt 4 21),
  (mt 5 22)]
abbrev Cx:AF:=⟨23,(.seq (.reg Cu) (.seq (.reg Ct) (.seq (.seq (.reg Cs) (.cond (.t 15) (.seq (.reg Cr) .ret) .skip)) (.seq (.reg Cq) .ret)))),[.mv (.t 4),.mv (.t 5)]⟩
theorem Cw:ab Tryz.prog (aa Tryz.prog 17) 17=some Cx:=by kernel_rfl
/-! cost.Emits-/
abbrev Cn:List AO:=
 [o1 2 (.bx 25 0 (.t 0)),o1 3 (.bx 44 0 (.t 1)),o1 4 (.mv (ci 0)),o1 5 (.mv (ci 0))]
abbrev Cm:List AO:=
 [o1 10 (.ld 3 true (.t 2)),o1 11 (.ld 4 true (.t 3)),
  (o2 12 31 [.t 10,.t 11]),
  (mt 9 12),o1 13 (.ext 0 (.t 9)),o1 14 (.ext 1 (.t 9)),o1 15 (.ext 2 (.t 9)),o1 6 (.al 69 [.sl0,.cv (.map none)]),
  (o3 (.st 2 (.t 6) (.t 13))),
  (mt 7 14),
  (mt 8 15)]
abbrev Cl:List AO:=
 [(mt 16 8),o1 17 (.bin .neq (.t 16) (ci 0))]
abbrev Ck:List AO:=
 [(mt 18 8),o1 4 (.mv (ci 0)),
  (mt 5 18)]
abbrev Cj:List AO:=
 [o1 19 (.ld 2 true (.t 6)),
  (mt 20 7),o1 21 (.ld 2 true (.t 6)),o1 22 (.mf 38 [.t 21] []),
  (o2 23 33 [.t 19,.t 20,.t 22,(ci 0)]),
  (o2 24 32 [.t 23]),o1 25 (.ext 0 (.t 24)),o1 26 (.ext 1 (.t 24)),
  (mt 4 25),
  (mt 5 26)]
abbrev Cp:AF:=⟨27,(.seq (.reg Cn) (.seq (.reg Cm) (.seq (.seq (.reg Cl) (.cond (.t 17) (.seq (.reg Ck) .ret) .skip)) (.seq (.reg Cj) .ret)))),[.mv (.t 4),.mv (.t 5)]⟩
theorem Co:ab Tryz.prog (aa Tryz.prog 18) 18=some Cp:=by kernel_rfl
/-! compactorref21.Emits-/
abbrev Cg:List AO:=
 [o1 2 (.bx 25 0 (.t 0)),o1 3 (.bx 44 0 (.t 1)),o1 4 (.mv (ci 0)),o1 5 (.mv (ci 0))]
abbrev Cf:List AO:=
 [o1 9 (.ld 3 true (.t 2)),o1 10 (.ld 4 true (.t 3)),
  (o2 11 35 [.t 9,.t 10]),
  (mt 8 11),o1 12 (.ext 0 (.t 8)),o1 13 (.ext 1 (.t 8)),
  (mt 6 12),
  (mt 7 13)]
abbrev Ce:List AO:=
 [(mt 14 7),o1 15 (.bin .neq (.t 14) (ci 0))]
abbrev Cd:List AO:=
 [(mt 16 7),o1 4 (.mv (ci 0)),
  (mt 5 16)]
abbrev Cc:List AO:=
 [(mt 17 6),o1 18 (.fa 2 (.t 2)),o1 19 (.ld 1 false (.t 18)),o1 20 (.ld 4 true (.t 3)),
  (o2 21 39 [.t 17,.t 19,.t 20]),
  (o2 22 36 [.t 21]),o1 23 (.ext 0 (.t 22)),o1 24 (.ext 1 (.t 22)),
  (mt 4 23),
  (mt 5 24)]
abbrev Ci:AF:=⟨25,(.seq (.reg Cg) (.seq (.reg Cf) (.seq (.seq (.reg Ce) (.cond (.t 15) (.seq (.reg Cd) .ret) .skip)) (.seq (.reg Cc) .ret)))),[.mv (.t 4),.mv (.t 5)]⟩
theorem Ch:ab Tryz.prog (aa Tryz.prog 19) 19=some Ci:=by kernel_rfl
/-! compactorref15.Shallow-/
abbrev B9:List AO:=
 [o1 2 (.mv (.c (.b false)))]
abbrev B8:List AO:=
 [o1 3 (.mv (.c .sl0))]
abbrev B7:List AO:=
 [o1 4 (.mv (ci 0))]
abbrev B6:List AO:=
 [o1 5 (.mv (ci 0))]
abbrev B5:List AO:=
 [(mt 7 5),
  (mt 8 0),o1 9 (.len (.t 8)),o1 10 (.bin .lss (.t 7) (.t 9)),
  (mt 11 10),
  (o5 12 11 (.mv (.t 4))),
  (o5 13 11 (.bin .leq (.t 12) (ci 3))),o1 14 (.pick (.t 11) (.t 13) (.c (.b false)))]
abbrev B4:List AO:=
 [(mt 17 0),
  (mt 18 5),o1 19 (.ia 2 (.t 17) (.t 18)),o1 20 (.fa 0 (.t 19)),o1 21 (.ld 1 false (.t 20))]
abbrev B3:List AO:=
 [o1 23 (.bin .eql (.t 21) (ci 29)),
  (mt 22 23)]
abbrev B2:List AO:=
 [(mt 24 3),o1 25 (.bs 4 1 1 [.b false] [(0,1,(.c (.b true)))]),o1 26 (.app 4 1 1 (.t 24) (.t 25)),
  (mt 27 4),o1 28 (.bin .add (.t 27) (ci 1)),
  (mt 3 26),
  (mt 4 28)]
abbrev B1:List AO:=
 [o1 30 (.bin .eql (.t 21) (ci 27)),
  (mt 29 30)]
abbrev B0:List AO:=
 [(mt 31 3),o1 32 (.bs 4 1 1 [.b false] [(0,1,(.c (.b false)))]),o1 33 (.app 4 1 1 (.t 31) (.t 32)),
  (mt 3 33)]
abbrev qH:List AO:=
 [o1 35 (.bin .eql (.t 21) (ci 31)),
  (mt 34 35)]
abbrev qG:List AO:=
 [(mt 36 3),o1 37 (.len (.t 36)),o1 38 (.bin .sub (.t 37) (ci 1)),
  (mt 6 38)]
abbrev qF:List AO:=
 [(mt 39 6),o1 40 (.bin .geq (.t 39) (ci 0))]
abbrev qE:List AO:=
 [(mt 41 3),
  (mt 42 6),o1 43 (.ia 1 (.t 41) (.t 42)),o1 44 (.ld 1 false (.t 43))]
abbrev qD:List AO:=
 [(mt 45 4),o1 46 (.bin .sub (.t 45) (ci 1)),
  (mt 4 46)]
abbrev qC:List AO:=
 [(mt 47 3),
  (mt 48 6),o1 49 (.sl 1 (.t 47) none (some (.t 48))),
  (mt 3 49)]
abbrev qK:AC:=
 (.seq (.reg B3) (.cond (.t 22) (.reg B2) (.seq (.reg B1) (.cond (.t 29) (.reg B0) (.seq (.reg qH) (.cond (.t 34) (.seq (.reg qG) (.seq (.reg qF) (.cond (.t 40) (.seq (.seq (.reg qE) (.cond (.t 44) (.reg qD) .skip)) (.reg qC)) .skip))) .skip))))))
abbrev qJ:AC:=
 (.seq (.reg B4) (.block 2 qK))
abbrev qB:List AO:=
 [(mt 15 5),o1 16 (.bin .add (.t 15) (ci 1)),
  (mt 5 16)]
abbrev qL:AC:=
 (.seq (.seq (.reg B5) (.cond (.t 14) .skip (.exit 0))) (.seq (.block 1 qJ) (.reg qB)))
abbrev qI:AC:=
 (.loop qL)
abbrev qA:List AO:=
 [(mt 50 4),o1 51 (.bin .leq (.t 50) (ci 3)),
  (mt 2 51)]
abbrev Cb:AF:=⟨52,(.seq (.reg B9) (.seq (.reg B8) (.seq (.reg B7) (.seq (.seq (.reg B6) (.block 0 qI)) (.seq (.reg qA) .ret))))),[.mv (.t 2)]⟩
theorem Ca:ab Tryz.prog (aa Tryz.prog 20) 20=some Cb:=by kernel_rfl
/-! compactorref15.Form-/
abbrev BV:List AO:=
 [o1 1 (.bx 25 0 (.t 0)),o1 2 (.mv (ci 0))]
abbrev BU:List AO:=
 [o1 7 (.fa 0 (.t 1)),o1 8 (.ld 1 false (.t 7)),o1 9 (.len (.t 8)),o1 10 (.bin .gtr (.t 9) (ci 8))]
abbrev BS:List AO:=
 [o1 2 (.mv (ci 6))]
abbrev BQ:List AO:=
 [o1 3 (.mv (ci 0))]
abbrev BP:List AO:=
 [o1 4 (.mv (ci 0))]
abbrev BO:List AO:=
 [(mt 11 4),o1 12 (.fa 0 (.t 1)),o1 13 (.ld 1 false (.t 12)),o1 14 (.len (.t 13)),o1 15 (.bin .lss (.t 11) (.t 14))]
abbrev BN:List AO:=
 [o1 18 (.fa 0 (.t 1)),o1 19 (.ld 1 false (.t 18)),
  (mt 20 4),o1 21 (.ia 2 (.t 19) (.t 20)),o1 22 (.fa 1 (.t 21)),o1 23 (.ld 1 false (.t 22)),o1 24 (.bin .lss (.t 23) (ci 1)),
  (mt 25 24),
  (o4 26 25 (.fa 0 (.t 1))),
  (o4 27 25 (.ld 1 false (.t 26))),
  (o4 28 25 (.mv (.t 4))),
  (o4 29 25 (.ia 2 (.t 27) (.t 28))),
  (o4 30 25 (.fa 1 (.t 29))),
  (o4 31 25 (.ld 1 false (.t 30))),
  (o4 32 25 (.bin .gtr (.t 31) (ci 65536))),o1 33 (.pick (.t 25) (.c (.b true)) (.t 32))]
abbrev BM:List AO:=
 [o1 2 (.mv (ci 2))]
abbrev BL:List AO:=
 [(mt 34 3),o1 35 (.fa 0 (.t 1)),o1 36 (.ld 1 false (.t 35)),
  (mt 37 4),o1 38 (.ia 2 (.t 36) (.t 37)),o1 39 (.fa 1 (.t 38)),o1 40 (.ld 1 false (.t 39)),o1 41 (.bin .add (.t 34) (.t 40)),
  (mt 3 41)]
abbrev BX:AC:=
 (.seq (.seq (.reg BN) (.cond (.t 33) (.seq (.reg BM) .ret) .skip)) (.reg BL))
abbrev qu:List AO:=
 [(mt 16 4),o1 17 (.bin .add (.t 16) (ci 1)),
  (mt 4 17)]
abbrev qz:AC:=
 (.seq (.seq (.reg BO) (.cond (.t 15) .skip (.exit 0))) (.seq (.block 1 BX) (.reg qu)))
abbrev qx:AC:=
 (.loop qz)
abbrev qt:List AO:=
 [(mt 42 3),o1 43 (.bin .gtr (.t 42) (ci 65536)),
  (mt 44 43),
  (o4 45 44 (.fa 1 (.t 1))),
  (o4 46 44 (.ld 1 false (.t 45))),
  (o4 47 44 (.bin .lss (.t 46) (ci 0))),o1 48 (.pick (.t 44) (.c (.b true)) (.t 47)),
  (mt 49 48),
  (o4 50 49 (.fa 1 (.t 1))),
  (o4 51 49 (.ld 1 false (.t 50))),
  (o4 52 49 (.bin .gtr (.t 51) (ci 16))),o1 53 (.pick (.t 49) (.c (.b true)) (.t 52))]
abbrev qs:List AO:=
 [o1 2 (.mv (ci 2))]
abbrev qr:List AO:=
 [o1 54 (.fa 2 (.t 1)),o1 55 (.ld 1 false (.t 54)),o1 56 (.len (.t 55)),o1 57 (.bin .gtr (.t 56) (ci 1024))]
abbrev qq:List AO:=
 [o1 2 (.mv (ci 6))]
abbrev qp:List AO:=
 [o1 5 (.mv (ci 0))]
abbrev qo:List AO:=
 [(mt 58 5),o1 59 (.fa 2 (.t 1)),o1 60 (.ld 1 false (.t 59)),o1 61 (.len (.t 60)),o1 62 (.bin .lss (.t 58) (.t 61))]
abbrev qn:List AO:=
 [o1 65 (.fa 2 (.t 1)),o1 66 (.ld 1 false (.t 65)),
  (mt 67 5),o1 68 (.ia 2 (.t 66) (.t 67)),o1 69 (.ld 2 true (.t 68)),
  (o2 70 51 [.t 69]),
  (mt 6 70)]
abbrev qm:List AO:=
 [(mt 71 6),o1 72 (.bin .neq (.t 71) (ci 0))]
abbrev ql:List AO:=
 [(mt 73 6),
  (mt 2 73)]
abbrev qw:AC:=
 (.seq (.reg qn) (.seq (.reg qm) (.cond (.t 72) (.seq (.reg ql) .ret) .skip)))
abbrev qk:List AO:=
 [(mt 63 5),o1 64 (.bin .add (.t 63) (ci 1)),
  (mt 5 64)]
abbrev qy:AC:=
 (.seq (.seq (.reg qo) (.cond (.t 62) .skip (.exit 2))) (.seq (.block 3 qw) (.reg qk)))
abbrev qv:AC:=
 (.loop qy)
abbrev qj:List AO:=
 [o1 2 (.mv (ci 0))]
abbrev BZ:AF:=⟨74,(.seq (.reg BV) (.seq (.seq (.reg BU) (.cond (.t 10) (.seq (.reg BS) .ret) .skip)) (.seq (.reg BQ) (.seq (.seq (.reg BP) (.block 0 qx)) (.seq (.seq (.reg qt) (.cond (.t 53) (.seq (.reg qs) .ret) .skip)) (.seq (.seq (.reg qr) (.cond (.t 57) (.seq (.reg qq) .ret) .skip)) (.seq (.seq (.reg qp) (.block 2 qv)) (.seq (.reg qj) .ret)))))))),[.mv (.t 2)]⟩
theorem BW:ab Tryz.prog (aa Tryz.prog 25) 25=some BZ:=by kernel_rfl
/-! compactorref21.sum-/
abbrev BJ:List AO:=
 [o1 4 (.mv (ci 0))]
abbrev BI:List AO:=
 [(mt 5 0),o1 6 (.bin .lss (.t 5) (ci 0)),
  (mt 7 6),
  (o4 8 7 (.mv (.t 0))),
  (o4 9 7 (.bin .gtr (.t 8) (ci 281474976710656))),o1 10 (.pick (.t 7) (.c (.b true)) (.t 9)),
  (mt 11 10),
  (o4 12 11 (.mv (.t 1))),
  (o4 13 11 (.bin .lss (.t 12) (ci 0))),o1 14 (.pick (.t 11) (.c (.b true)) (.t 13)),
  (mt 15 14),
  (o4 16 15 (.mv (.t 1))),
  (o4 17 15 (.bin .gtr (.t 16) (ci 281474976710656))),o1 18 (.pick (.t 15) (.c (.b true)) (.t 17))]
abbrev BH:List AO:=
 [o1 4 (.mv (ci 281474976710656))]
abbrev BG:List AO:=
 [(mt 19 0),
  (mt 20 1),o1 21 (.bin .add (.t 19) (.t 20)),⟨some 22,none,.mo (.mi (.t 21) (ci 281474976710656))⟩,
  (mt 4 22)]
abbrev BK:AF:=⟨23,(.seq (.reg BJ) (.seq (.seq (.reg BI) (.cond (.t 18) (.seq (.reg BH) .ret) .skip)) (.seq (.reg BG) .ret))),[.mv (.t 4)]⟩
theorem oD:ab Tryz.prog (aa Tryz.prog 27) 27=some BK:=by kernel_rfl
/-! compactorref21.formed-/
abbrev BE:List AO:=
 [o1 1 (.bx 34 0 (.t 0)),o1 2 (.mv (.c (.b false)))]
abbrev BD:List AO:=
 [o1 3 (.fa 0 (.t 1)),o1 4 (.ld 1 false (.t 3)),o1 5 (.bin .geq (.t 4) (ci 0)),
  (mt 6 5),
  (o5 7 6 (.fa 0 (.t 1))),
  (o5 8 6 (.ld 1 false (.t 7))),
  (o5 9 6 (.bin .leq (.t 8) (ci 281474976710656))),o1 10 (.pick (.t 6) (.t 9) (.c (.b false))),
  (mt 11 10),
  (o5 12 11 (.fa 1 (.t 1))),
  (o5 13 11 (.ld 1 false (.t 12))),
  (o5 14 11 (.bin .geq (.t 13) (ci 0))),o1 15 (.pick (.t 11) (.t 14) (.c (.b false))),
  (mt 16 15),
  (o5 17 16 (.fa 1 (.t 1))),
  (o5 18 16 (.ld 1 false (.t 17))),
  (o5 19 16 (.bin .leq (.t 18) (ci 281474976710656))),o1 20 (.pick (.t 16) (.t 19) (.c (.b false))),
  (mt 2 20)]
abbrev BF:AF:=⟨21,(.seq (.reg BE) (.seq (.reg BD) .ret)),[.mv (.t 2)]⟩
theorem oC:ab Tryz.prog (aa Tryz.prog 29) 29=some BF:=by kernel_rfl
/-! compactorref20.Few-/
abbrev z7:List AO:=
 [o1 1 (.bx 44 0 (.t 0)),o1 2 (.mv (.c (.b false)))]
abbrev z6:List AO:=
 [o1 3 (.mv (ci 0))]
abbrev z5:List AO:=
 [(mt 4 3),o1 5 (.fa 3 (.t 1)),o1 6 (.ld 1 false (.t 5)),o1 7 (.len (.t 6)),o1 8 (.bin .lss (.t 4) (.t 7)),
  (mt 9 8),
  (o5 10 9 (.mv (.t 3))),
  (o5 11 9 (.bin .lss (.t 10) (ci 60))),o1 12 (.pick (.t 9) (.t 11) (.c (.b false)))]
abbrev z4:List AO:=
 [o1 15 (.fa 3 (.t 1)),o1 16 (.ld 1 false (.t 15)),
  (mt 17 3),o1 18 (.ia 3 (.t 16) (.t 17)),o1 19 (.fa 2 (.t 18)),o1 20 (.ld 1 false (.t 19)),o1 21 (.len (.t 20)),o1 22 (.bin .gtr (.t 21) (ci 40))]
abbrev z3:List AO:=
 [o1 2 (.mv (.c (.b false)))]
abbrev Aa:AC:=
 (.seq (.reg z4) (.cond (.t 22) (.seq (.reg z3) .ret) .skip))
abbrev z0:List AO:=
 [(mt 13 3),o1 14 (.bin .add (.t 13) (ci 1)),
  (mt 3 14)]
abbrev Ab:AC:=
 (.seq (.seq (.reg z5) (.cond (.t 12) .skip (.exit 0))) (.seq (.block 1 Aa) (.reg z0)))
abbrev z9:AC:=
 (.loop Ab)
abbrev zZ:List AO:=
 [o1 23 (.fa 3 (.t 1)),o1 24 (.ld 1 false (.t 23)),o1 25 (.len (.t 24)),o1 26 (.bin .leq (.t 25) (ci 60)),
  (mt 2 26)]
abbrev pX:AF:=⟨27,(.seq (.reg z7) (.seq (.seq (.reg z6) (.block 0 z9)) (.seq (.reg zZ) .ret))),[.mv (.t 2)]⟩
theorem z8:ab Tryz.prog (aa Tryz.prog 30) 30=some pX:=by kernel_rfl
/-! compactorref21.check-/
abbrev zW:List AO:=
 [o1 2 (.bx 25 0 (.t 0)),o1 3 (.bx 44 0 (.t 1)),o1 4 (.mv (.c .sl0)),o1 5 (.mv (ci 0))]
abbrev zV:List AO:=
 [o1 16 (.ld 3 true (.t 2)),
  (o2 17 55 [.t 16]),
  (mt 15 17),o1 18 (.ext 0 (.t 15)),o1 19 (.ext 1 (.t 15)),
  (mt 6 18),
  (mt 7 19)]
abbrev zU:List AO:=
 [(mt 20 7),o1 21 (.bin .neq (.t 20) (ci 0))]
abbrev zT:List AO:=
 [(mt 22 7),o1 4 (.mv (.c .sl0)),
  (mt 5 22)]
abbrev zS:List AO:=
 [o1 24 (.fa 2 (.t 2)),o1 25 (.ld 1 false (.t 24)),
  (o2 26 56 [.t 25]),
  (mt 23 26),o1 27 (.ext 0 (.t 23)),o1 28 (.ext 1 (.t 23)),
  (mt 8 27),
  (mt 9 28)]
abbrev zR:List AO:=
 [(mt 29 8),o1 30 (.len (.t 29)),o1 31 (.fa 3 (.t 3)),o1 32 (.ld 1 false (.t 31)),o1 33 (.len (.t 32)),o1 34 (.bin .neq (.t 30) (.t 33))]
abbrev zQ:List AO:=
 [o1 4 (.mv (.c .sl0)),o1 5 (.mv (ci 23))]
abbrev zP:List AO:=
 [o1 10 (.mv (ci 0))]
abbrev zO:List AO:=
 [(mt 35 10),
  (mt 36 8),o1 37 (.len (.t 36)),o1 38 (.bin .lss (.t 35) (.t 37))]
abbrev zY:List (Nat×AO):=
 [(2,(o1 41 (.fa 3 (.t 3)))),
  (2,(mt 43 10)),
  (2,(mt 47 8)),
  (2,(mt 48 10)),(2,(o1 49 (.ia 1 (.t 47) (.t 48)))),(1,(o1 42 (.ld 1 false (.t 41)))),(2,(o1 44 (.ia 3 (.t 42) (.t 43)))),(2,(o1 45 (.fa 0 (.t 44)))),(1,(o1 46 (.ld 1 false (.t 45)))),(1,(o1 50 (.ld 1 false (.t 49)))),(2,(o1 51 (.bin .neq (.t 46) (.t 50))))]
abbrev ni:List AO:=
 [o1 4 (.mv (.c .sl0)),o1 5 (.mv (ci 23))]
abbrev nq:AC:=
 (.seq (.mix zY) (.cond (.t 51) (.seq (.reg ni) .ret) .skip))
abbrev nh:List AO:=
 [(mt 39 10),o1 40 (.bin .add (.t 39) (ci 1)),
  (mt 10 40)]
abbrev ns:AC:=
 (.seq (.seq (.reg zO) (.cond (.t 38) .skip (.exit 0))) (.seq (.block 1 nq) (.reg nh)))
abbrev np:AC:=
 (.loop ns)
abbrev ng:List AO:=
 [o1 11 (.mv (ci 0))]
abbrev nf:List AO:=
 [(mt 52 11),
  (mt 53 8),o1 54 (.len (.t 53)),o1 55 (.bin .lss (.t 52) (.t 54))]
abbrev nb:List AO:=
 [o1 58 (.fa 3 (.t 3)),o1 59 (.ld 1 false (.t 58)),
  (mt 60 11),o1 61 (.ia 3 (.t 59) (.t 60)),o1 62 (.fa 1 (.t 61)),o1 63 (.ld 1 false (.t 62)),o1 64 (.bin .lss (.t 63) (ci 0)),
  (mt 65 64),
  (o4 66 65 (.fa 3 (.t 3))),
  (o4 67 65 (.ld 1 false (.t 66))),
  (o4 68 65 (.mv (.t 11))),
  (o4 69 65 (.ia 3 (.t 67) (.t 68))),
  (o4 70 65 (.fa 1 (.t 69))),
  (o4 71 65 (.ld 1 false (.t 70))),
  (o4 72 65 (.bin .gtr (.t 71) (ci 65536))),o1 73 (.pick (.t 65) (.c (.b true)) (.t 72))]
abbrev na:List AO:=
 [o1 4 (.mv (.c .sl0)),o1 5 (.mv (ci 2))]
abbrev nk:AC:=
 (.seq (.reg nb) (.cond (.t 73) (.seq (.reg na) .ret) .skip))
abbrev m9:List AO:=
 [(mt 56 11),o1 57 (.bin .add (.t 56) (ci 1)),
  (mt 11 57)]
abbrev nr:AC:=
 (.seq (.seq (.reg nf) (.cond (.t 55) .skip (.exit 2))) (.seq (.block 3 nk) (.reg m9)))
abbrev nj:AC:=
 (.loop nr)
abbrev m8:List AO:=
 [o1 75 (.fa 2 (.t 2)),o1 76 (.ld 1 false (.t 75)),
  (o2 77 57 [.t 76]),
  (mt 74 77),o1 78 (.ext 0 (.t 74)),o1 79 (.ext 1 (.t 74)),o1 80 (.ext 2 (.t 74)),
  (mt 12 78),
  (mt 13 79),
  (mt 14 80)]
abbrev m7:List AO:=
 [(mt 81 12),
  (mt 4 81),o1 5 (.mv (ci 0))]
abbrev pW:AF:=⟨82,(.seq (.reg zW) (.seq (.seq (.reg zV) (.seq (.reg zU) (.cond (.t 21) (.seq (.reg zT) .ret) .skip))) (.seq (.reg zS) (.seq (.seq (.reg zR) (.cond (.t 34) (.seq (.reg zQ) .ret) .skip)) (.seq (.seq (.reg zP) (.block 0 np)) (.seq (.seq (.reg ng) (.block 2 nj)) (.seq (.reg m8) (.seq (.reg m7) .ret)))))))),[.mv (.t 4),.mv (.t 5)]⟩
theorem zX:ab Tryz.prog (aa Tryz.prog 35) 35=some pW:=by kernel_rfl
/-! compactorref21.bounded-/
abbrev zM:List AO:=
 [o1 2 (.mv (ci 0)),o1 3 (.mv (ci 0))]
abbrev zL:List AO:=
 [(mt 4 0),o1 5 (.bin .gtr (.t 4) (ci 281474976710656))]
abbrev zK:List AO:=
 [o1 2 (.mv (ci 0)),o1 3 (.mv (ci 18))]
abbrev zJ:List AO:=
 [(mt 6 0),
  (mt 2 6),o1 3 (.mv (ci 0))]
abbrev pV:AF:=⟨7,(.seq (.reg zM) (.seq (.seq (.reg zL) (.cond (.t 5) (.seq (.reg zK) .ret) .skip)) (.seq (.reg zJ) .ret))),[.mv (.t 2),.mv (.t 3)]⟩
theorem zN:ab Tryz.prog (aa Tryz.prog 36) 36=some pV:=by kernel_rfl
/-! compactorref21.steps-/
abbrev zF:List AO:=
 [o1 3 (.bx 44 0 (.t 1)),o1 4 (.mv (ci 0))]
abbrev zE:List AO:=
 [o1 5 (.mv (ci 0))]
abbrev zD:List AO:=
 [o1 6 (.mv (ci 0))]
abbrev zC:List AO:=
 [(mt 8 6),
  (mt 9 0),o1 10 (.len (.t 9)),o1 11 (.bin .lss (.t 8) (.t 10))]
abbrev zB:List AO:=
 [(mt 14 0),
  (mt 15 6),o1 16 (.ia 5 (.t 14) (.t 15)),o1 17 (.ld 5 true (.t 16)),o1 7 (.al 106 [.n .i64 0,.n .i64 0,.n .i64 0,.sl0,.sl0]),
  (o3 (.st 5 (.t 7) (.t 17)))]
abbrev zA:List AO:=
 [o1 18 (.fa 0 (.t 7)),o1 19 (.ld 1 false (.t 18))]
abbrev zz:List AO:=
 [o1 29 (.bin .eql (.t 19) (ci 27)),
  (mt 28 29)]
abbrev zI:List (Nat×AO):=
 [(2,(mt 30 5)),(2,(o1 31 (.bin .add (.t 30) (ci 1)))),(2,(o1 32 (.fa 3 (.t 7)))),(2,(o1 36 (.fa 4 (.t 7)))),(1,(o1 33 (.ld 1 false (.t 32)))),(1,(o1 34 (.ld 4 true (.t 3)))),(1,(o1 37 (.ld 1 false (.t 36)))),(1,(o1 38 (.ld 4 true (.t 3)))),
  (0,(o2 35 37 [.t 33,.t 34])),
  (3,(o2 39 37 [.t 37,.t 38])),(3,⟨some 40,none,.mo (.mx (.t 35) (.t 39))⟩),(2,(o1 41 (.bin .add (.t 31) (.t 40)))),
  (3,(o2 42 58 [.t 41])),
  (2,(mt 5 42))]
abbrev zy:List AO:=
 [o1 44 (.bin .eql (.t 19) (ci 29)),
  (mt 43 44)]
abbrev zH:List (Nat×AO):=
 [(2,(mt 45 5)),(2,(o1 46 (.bin .add (.t 45) (ci 1)))),(2,(o1 47 (.fa 3 (.t 7)))),(2,(o1 54 (.fa 1 (.t 7)))),(1,(o1 48 (.ld 1 false (.t 47)))),(1,(o1 49 (.ld 4 true (.t 3)))),(1,(o1 53 (.ld 4 true (.t 3)))),(1,(o1 55 (.ld 1 false (.t 54)))),
  (0,(o2 50 37 [.t 48,.t 49])),(2,(o1 51 (.bin .add (.t 50) (ci 1)))),
  (0,(o2 52 58 [.t 51])),
  (3,(o2 56 60 [.t 53,.t 55])),
  (3,(o2 57 59 [.t 52,.t 56])),(2,(o1 58 (.bin .add (.t 46) (.t 57)))),
  (3,(o2 59 58 [.t 58])),
  (2,(mt 5 59))]
abbrev mW:List AO:=
 [(mt 20 5),o1 21 (.fa 2 (.t 7)),o1 22 (.ld 1 false (.t 21)),o1 23 (.bin .add (.t 20) (.t 22)),o1 24 (.fa 1 (.t 7)),o1 25 (.ld 1 false (.t 24)),o1 26 (.bin .sub (.t 23) (.t 25)),
  (o2 27 58 [.t 26]),
  (mt 5 27)]
abbrev mZ:AC:=
 (.seq (.reg zz) (.cond (.t 28) (.mix zI) (.seq (.reg zy) (.cond (.t 43) (.mix zH) (.reg mW)))))
abbrev mY:AC:=
 (.seq (.reg zB) (.seq (.reg zA) (.block 2 mZ)))
abbrev mV:List AO:=
 [(mt 12 6),o1 13 (.bin .add (.t 12) (ci 1)),
  (mt 6 13)]
abbrev m6:AC:=
 (.seq (.seq (.reg zC) (.cond (.t 11) .skip (.exit 0))) (.seq (.block 1 mY) (.reg mV)))
abbrev mX:AC:=
 (.loop m6)
abbrev mU:List AO:=
 [(mt 60 5),
  (mt 4 60)]
abbrev pU:AF:=⟨61,(.seq (.reg zF) (.seq (.reg zE) (.seq (.seq (.reg zD) (.block 0 mX)) (.seq (.reg mU) .ret)))),[.mv (.t 4)]⟩
theorem zG:ab Tryz.prog (aa Tryz.prog 37) 37=some pU:=by kernel_rfl
/-! cost.bounds.emits-/
abbrev zt:List AO:=
 [o1 3 (.bx 69 0 (.t 0)),o1 6 (.mv (ci 0))]
abbrev zs:List AO:=
 [o1 7 (.mv (ci 0))]
abbrev zr:List AO:=
 [o1 10 (.fa 0 (.t 3)),o1 11 (.ld 1 false (.t 10)),
  (mt 12 1),
  (mt 13 2),o1 14 (.sl 2 (.t 11) (some (.t 12)) (some (.t 13))),o1 15 (.len (.t 14)),o1 16 (.mv (ci 0))]
abbrev zq:List AO:=
 [o1 17 (.bin .lss (.t 16) (.t 15))]
abbrev zp:List AO:=
 [o1 18 (.ia 2 (.t 14) (.t 16)),o1 19 (.ld 2 true (.t 18)),o1 9 (.al 82 [.n .i64 0,.n .u32 0]),
  (o3 (.st 2 (.t 9) (.t 19)))]
abbrev zo:List AO:=
 [o1 20 (.fa 0 (.t 9)),o1 21 (.ld 1 false (.t 20)),o1 22 (.bin .eql (.t 21) (ci 34))]
abbrev zn:List AO:=
 [(mt 23 7),o1 24 (.bin .add (.t 23) (ci 1)),
  (mt 7 24)]
abbrev zw:AC:=
 (.seq (.reg zp) (.seq (.reg zo) (.cond (.t 22) (.reg zn) .skip)))
abbrev zm:List AO:=
 [o1 25 (.bin .add (.t 16) (ci 1)),
  (mt 16 25)]
abbrev zx:AC:=
 (.seq (.reg zq) (.seq (.cond (.t 17) .skip (.exit 0)) (.seq (.block 1 zw) (.reg zm))))
abbrev mT:AC:=
 (.loop zx)
abbrev mS:List AO:=
 [(mt 26 7),
  (mt 6 26)]
abbrev pT:AF:=⟨27,(.seq (.reg zt) (.seq (.reg zs) (.seq (.seq (.reg zr) (.block 0 mT)) (.seq (.reg mS) .ret)))),[.mv (.t 6)]⟩
theorem zv:ab Tryz.prog (aa Tryz.prog 38) 38=some pT:=by kernel_rfl
/-! compactorref21.emits-/
abbrev zi:List AO:=
 [o1 5 (.bx 44 0 (.t 2)),o1 6 (.mv (ci 0))]
abbrev zh:List AO:=
 [o1 7 (.mv (ci 0))]
abbrev zg:List AO:=
 [o1 8 (.mv (ci 0))]
abbrev zf:List AO:=
 [(mt 11 8),
  (mt 12 0),o1 13 (.len (.t 12)),o1 14 (.bin .lss (.t 11) (.t 13))]
abbrev ze:List AO:=
 [(mt 17 0),
  (mt 18 8),o1 19 (.ia 5 (.t 17) (.t 18)),o1 20 (.ld 5 true (.t 19)),o1 9 (.al 106 [.n .i64 0,.n .i64 0,.n .i64 0,.sl0,.sl0]),
  (o3 (.st 5 (.t 9) (.t 20)))]
abbrev zd:List AO:=
 [o1 21 (.fa 0 (.t 9)),o1 22 (.ld 1 false (.t 21))]
abbrev zc:List AO:=
 [o1 41 (.bin .eql (.t 22) (ci 27)),
  (mt 40 41)]
abbrev zl:List (Nat×AO):=
 [(2,(mt 42 7)),(2,(o1 43 (.fa 3 (.t 9)))),
  (2,(mt 45 1)),(2,(o1 48 (.fa 4 (.t 9)))),
  (2,(mt 50 1)),(1,(o1 44 (.ld 1 false (.t 43)))),(1,(o1 46 (.ld 4 true (.t 5)))),(1,(o1 49 (.ld 1 false (.t 48)))),(1,(o1 51 (.ld 4 true (.t 5)))),
  (0,(o2 47 39 [.t 44,.t 45,.t 46])),
  (3,(o2 52 39 [.t 49,.t 50,.t 51])),(3,⟨some 53,none,.mo (.mx (.t 47) (.t 52))⟩),(2,(o1 54 (.bin .add (.t 42) (.t 53)))),
  (3,(o2 55 58 [.t 54])),
  (2,(mt 7 55))]
abbrev zb:List AO:=
 [o1 57 (.bin .eql (.t 22) (ci 29)),
  (mt 56 57)]
abbrev zk:List (Nat×AO):=
 [(2,(mt 58 7)),(2,(o1 59 (.fa 3 (.t 9)))),
  (2,(mt 61 1)),(2,(o1 65 (.fa 1 (.t 9)))),(1,(o1 60 (.ld 1 false (.t 59)))),(1,(o1 62 (.ld 4 true (.t 5)))),(1,(o1 64 (.ld 4 true (.t 5)))),(1,(o1 66 (.ld 1 false (.t 65)))),
  (0,(o2 63 39 [.t 60,.t 61,.t 62])),
  (3,(o2 67 60 [.t 64,.t 66])),
  (3,(o2 68 59 [.t 63,.t 67])),(2,(o1 69 (.bin .add (.t 58) (.t 68)))),
  (3,(o2 70 58 [.t 69])),
  (2,(mt 7 70))]
abbrev mJ:List AO:=
 [o1 23 (.fa 1 (.t 9)),o1 24 (.ld 1 false (.t 23)),
  (mt 10 24)]
abbrev mI:List AO:=
 [(mt 25 10),o1 26 (.fa 2 (.t 9)),o1 27 (.ld 1 false (.t 26)),o1 28 (.bin .lss (.t 25) (.t 27))]
abbrev mH:List AO:=
 [(mt 31 1),
  (mt 32 10),o1 33 (.ia 2 (.t 31) (.t 32)),o1 34 (.fa 0 (.t 33)),o1 35 (.ld 1 false (.t 34)),o1 36 (.bin .eql (.t 35) (ci 34))]
abbrev mG:List AO:=
 [(mt 37 7),o1 38 (.bin .add (.t 37) (ci 1)),
  (o2 39 58 [.t 38]),
  (mt 7 39)]
abbrev mP:AC:=
 (.seq (.reg mH) (.cond (.t 36) (.reg mG) .skip))
abbrev mF:List AO:=
 [(mt 29 10),o1 30 (.bin .add (.t 29) (ci 1)),
  (mt 10 30)]
abbrev mR:AC:=
 (.seq (.seq (.reg mI) (.cond (.t 28) .skip (.exit 3))) (.seq (.block 4 mP) (.reg mF)))
abbrev mO:AC:=
 (.loop mR)
abbrev mN:AC:=
 (.seq (.reg zc) (.cond (.t 40) (.mix zl) (.seq (.reg zb) (.cond (.t 56) (.mix zk) (.seq (.reg mJ) (.block 3 mO))))))
abbrev mM:AC:=
 (.seq (.reg ze) (.seq (.reg zd) (.block 2 mN)))
abbrev mE:List AO:=
 [(mt 15 8),o1 16 (.bin .add (.t 15) (ci 1)),
  (mt 8 16)]
abbrev mQ:AC:=
 (.seq (.seq (.reg zf) (.cond (.t 14) .skip (.exit 0))) (.seq (.block 1 mM) (.reg mE)))
abbrev mL:AC:=
 (.loop mQ)
abbrev mD:List AO:=
 [(mt 71 7),
  (mt 6 71)]
abbrev pS:AF:=⟨72,(.seq (.reg zi) (.seq (.reg zh) (.seq (.seq (.reg zg) (.block 0 mL)) (.seq (.reg mD) .ret)))),[.mv (.t 6)]⟩
theorem zj:ab Tryz.prog (aa Tryz.prog 39) 39=some pS:=by kernel_rfl
/-! compactorref15.Check-/
abbrev y9:List AO:=
 [o1 1 (.bx 82 0 (.t 0)),o1 2 (.mv (ci 0))]
abbrev y8:List AO:=
 [o1 4 (.fa 0 (.t 1)),o1 5 (.ld 1 false (.t 4)),o1 6 (.bin .lss (.t 5) (ci 0)),
  (mt 7 6),
  (o4 8 7 (.fa 0 (.t 1))),
  (o4 9 7 (.ld 1 false (.t 8))),
  (o4 10 7 (.bin .geq (.t 9) (ci 36))),o1 11 (.pick (.t 7) (.c (.b true)) (.t 10))]
abbrev y6:List AO:=
 [o1 2 (.mv (ci 1))]
abbrev yZ:List AO:=
 [o1 3 (.mv (ci 0))]
abbrev yY:List AO:=
 [o1 12 (.fa 0 (.t 1)),o1 13 (.ld 1 false (.t 12))]
abbrev yX:List AO:=
 [o1 15 (.bin .eql (.t 13) (ci 0)),
  (mt 14 15)]
abbrev yW:List AO:=
 [o1 2 (.mv (ci 0))]
abbrev yV:List AO:=
 [o1 17 (.bin .eql (.t 13) (ci 1)),
  (mt 16 17)]
abbrev yU:List AO:=
 [o1 18 (.bin .eql (.t 13) (ci 2)),
  (mt 16 18)]
abbrev yT:List AO:=
 [o1 3 (.mv (ci 15))]
abbrev mB:List AO:=
 [o1 20 (.bin .eql (.t 13) (ci 3)),
  (mt 19 20)]
abbrev mA:List AO:=
 [o1 21 (.bin .eql (.t 13) (ci 4)),
  (mt 19 21)]
abbrev mz:List AO:=
 [o1 3 (.mv (ci 7))]
abbrev my:List AO:=
 [o1 23 (.bin .eql (.t 13) (ci 35)),
  (mt 22 23)]
abbrev mw:List AO:=
 [o1 3 (.mv (ci 15))]
abbrev mC:AC:=
 (.seq (.reg yX) (.cond (.t 14) (.seq (.reg yW) .ret) (.seq (.seq (.reg yV) (.cond (.t 16) .skip (.reg yU))) (.cond (.t 16) (.reg yT) (.seq (.seq (.reg mB) (.cond (.t 19) .skip (.reg mA))) (.cond (.t 19) (.reg mz) (.seq (.reg my) (.cond (.t 22) (.reg mw) .skip))))))))
abbrev mr:List AO:=
 [o1 24 (.fa 1 (.t 1)),o1 25 (.ld 1 false (.t 24)),o1 26 (.cvi .i64 (.t 25)),
  (mt 27 3),o1 28 (.bin .gtr (.t 26) (.t 27))]
abbrev mq:List AO:=
 [o1 2 (.mv (ci 2))]
abbrev ml:List AO:=
 [o1 2 (.mv (ci 0))]
abbrev pR:AF:=⟨29,(.seq (.reg y9) (.seq (.seq (.reg y8) (.cond (.t 11) (.seq (.reg y6) .ret) .skip)) (.seq (.reg yZ) (.seq (.seq (.reg yY) (.block 0 mC)) (.seq (.seq (.reg mr) (.cond (.t 28) (.seq (.reg mq) .ret) .skip)) (.seq (.reg ml) .ret)))))),[.mv (.t 2)]⟩
theorem za:ab Tryz.prog (aa Tryz.prog 51) 51=some pR:=by kernel_rfl
/-! compactorref20.Check-/
abbrev yR:List AO:=
 [o1 1 (.bx 25 0 (.t 0)),o1 2 (.mv (ci 0)),o1 3 (.mv (ci 0))]
abbrev yQ:List AO:=
 [o1 10 (.ld 3 true (.t 1)),
  (o2 11 25 [.t 10]),
  (mt 4 11)]
abbrev yP:List AO:=
 [(mt 12 4),o1 13 (.bin .neq (.t 12) (ci 0))]
abbrev yO:List AO:=
 [(mt 14 4),o1 2 (.mv (ci 0)),
  (mt 3 14)]
abbrev yN:List AO:=
 [o1 16 (.fa 2 (.t 1)),o1 17 (.ld 1 false (.t 16)),
  (o2 18 57 [.t 17]),
  (mt 15 18),o1 19 (.ext 0 (.t 15)),o1 20 (.ext 1 (.t 15)),o1 21 (.ext 2 (.t 15)),
  (mt 5 19),
  (mt 6 20),
  (mt 7 21)]
abbrev yM:List AO:=
 [(mt 22 7),o1 23 (.bin .neq (.t 22) (ci 0))]
abbrev yL:List AO:=
 [(mt 24 6),
  (mt 25 7),
  (mt 2 24),
  (mt 3 25)]
abbrev yK:List AO:=
 [o1 8 (.mv (ci 0))]
abbrev yJ:List AO:=
 [(mt 26 8),o1 27 (.fa 2 (.t 1)),o1 28 (.ld 1 false (.t 27)),o1 29 (.len (.t 28)),o1 30 (.bin .lss (.t 26) (.t 29))]
abbrev yI:List AO:=
 [o1 33 (.fa 2 (.t 1)),o1 34 (.ld 1 false (.t 33)),
  (mt 35 8),o1 36 (.ia 2 (.t 34) (.t 35)),o1 37 (.ld 2 true (.t 36)),o1 9 (.al 82 [.n .i64 0,.n .u32 0]),
  (o3 (.st 2 (.t 9) (.t 37)))]
abbrev mb:List AO:=
 [o1 38 (.fa 0 (.t 9)),o1 39 (.ld 1 false (.t 38)),o1 40 (.bin .eql (.t 39) (ci 1)),
  (mt 41 40),
  (o4 42 41 (.fa 0 (.t 9))),
  (o4 43 41 (.ld 1 false (.t 42))),
  (o4 44 41 (.bin .eql (.t 43) (ci 2))),o1 45 (.pick (.t 41) (.c (.b true)) (.t 44)),
  (mt 46 45),
  (o5 47 46 (.fa 1 (.t 9))),
  (o5 48 46 (.ld 1 false (.t 47))),
  (o5 49 46 (.cvi .i64 (.t 48))),
  (o5 50 46 (.fa 1 (.t 1))),
  (o5 51 46 (.ld 1 false (.t 50))),
  (o5 52 46 (.bin .geq (.t 49) (.t 51))),o1 53 (.pick (.t 46) (.t 52) (.c (.b false))),
  (mt 54 53),
  (o4 55 54 (.fa 0 (.t 9))),
  (o4 56 54 (.ld 1 false (.t 55))),
  (o4 57 54 (.bin .eql (.t 56) (ci 3))),
  (o4 58 54 (.mv (.t 57))),
  (o4 59 58 (.fa 0 (.t 9))),
  (o4 60 58 (.ld 1 false (.t 59))),
  (o4 61 58 (.bin .eql (.t 60) (ci 4))),
  (o4 62 54 (.pick (.t 58) (.c (.b true)) (.t 61))),
  (o4 63 54 (.mv (.t 62))),
  (o5 64 63 (.fa 1 (.t 9))),
  (o5 65 63 (.ld 1 false (.t 64))),
  (o5 66 63 (.cvi .i64 (.t 65))),
  (o5 67 63 (.fa 0 (.t 1))),
  (o5 68 63 (.ld 1 false (.t 67))),
  (o5 69 63 (.len (.t 68))),
  (o5 70 63 (.bin .geq (.t 66) (.t 69))),
  (o4 71 54 (.pick (.t 63) (.t 70) (.c (.b false)))),o1 72 (.pick (.t 54) (.c (.b true)) (.t 71))]
abbrev ma:List AO:=
 [(mt 73 8),
  (mt 2 73),o1 3 (.mv (ci 2))]
abbrev mg:AC:=
 (.seq (.reg yI) (.seq (.reg mb) (.cond (.t 72) (.seq (.reg ma) .ret) .skip)))
abbrev l9:List AO:=
 [(mt 31 8),o1 32 (.bin .add (.t 31) (ci 1)),
  (mt 8 32)]
abbrev mj:AC:=
 (.seq (.seq (.reg yJ) (.cond (.t 30) .skip (.exit 0))) (.seq (.block 1 mg) (.reg l9)))
abbrev mc:AC:=
 (.loop mj)
abbrev l8:List AO:=
 [o1 2 (.mv (ci 0)),o1 3 (.mv (ci 0))]
abbrev pQ:AF:=⟨74,(.seq (.reg yR) (.seq (.seq (.reg yQ) (.seq (.reg yP) (.cond (.t 13) (.seq (.reg yO) .ret) .skip))) (.seq (.seq (.reg yN) (.seq (.reg yM) (.cond (.t 23) (.seq (.reg yL) .ret) .skip))) (.seq (.seq (.reg yK) (.block 0 mc)) (.seq (.reg l8) .ret))))),[.mv (.t 2),.mv (.t 3)]⟩
theorem yS:ab Tryz.prog (aa Tryz.prog 55) 55=some pQ:=by kernel_rfl
/-! compactorref18.Loops-/
abbrev yF:List AO:=
 [o1 2 (.mv (.c .sl0)),o1 3 (.mv (ci 0))]
abbrev yE:List AO:=
 [(mt 10 0),
  (o2 11 83 [.t 10]),
  (mt 9 11),o1 12 (.ext 0 (.t 9)),o1 13 (.ext 1 (.t 9)),o1 14 (.ext 2 (.t 9)),
  (mt 4 12),
  (mt 5 13),
  (mt 6 14)]
abbrev yD:List AO:=
 [(mt 15 6),o1 16 (.bin .neq (.t 15) (ci 0))]
abbrev yC:List AO:=
 [(mt 17 6),o1 2 (.mv (.c .sl0)),
  (mt 3 17)]
abbrev yB:List AO:=
 [o1 7 (.mv (.c .sl0))]
abbrev yA:List AO:=
 [o1 8 (.mv (ci 0))]
abbrev yz:List AO:=
 [(mt 18 8),
  (mt 19 0),o1 20 (.len (.t 19)),o1 21 (.bin .lss (.t 18) (.t 20))]
abbrev yx:List AO:=
 [(mt 24 0),
  (mt 25 8),o1 26 (.ia 2 (.t 24) (.t 25)),o1 27 (.fa 0 (.t 26)),o1 28 (.ld 1 false (.t 27)),o1 29 (.bin .eql (.t 28) (ci 29))]
abbrev yw:List AO:=
 [(mt 30 7),
  (mt 31 8),o1 32 (.bs 3 1 1 [.n .i64 0] [(0,1,(.t 31))]),o1 33 (.app 3 1 8 (.t 30) (.t 32)),
  (mt 7 33)]
abbrev yH:AC:=
 (.seq (.reg yx) (.cond (.t 29) (.reg yw) .skip))
abbrev l5:List AO:=
 [(mt 22 8),o1 23 (.bin .add (.t 22) (ci 1)),
  (mt 8 23)]
abbrev l7:AC:=
 (.seq (.seq (.reg yz) (.cond (.t 21) .skip (.exit 0))) (.seq (.block 1 yH) (.reg l5)))
abbrev l6:AC:=
 (.loop l7)
abbrev l4:List AO:=
 [(mt 34 7),
  (mt 2 34),o1 3 (.mv (ci 0))]
abbrev pP:AF:=⟨35,(.seq (.reg yF) (.seq (.seq (.reg yE) (.seq (.reg yD) (.cond (.t 16) (.seq (.reg yC) .ret) .skip))) (.seq (.reg yB) (.seq (.seq (.reg yA) (.block 0 l6)) (.seq (.reg l4) .ret))))),[.mv (.t 2),.mv (.t 3)]⟩
theorem yG:ab Tryz.prog (aa Tryz.prog 56) 56=some pP:=by kernel_rfl
/-! compactorref18.Parse-/
abbrev yr:List AO:=
 [o1 2 (.mv (.c .sl0)),o1 3 (.mv (ci 0)),o1 4 (.mv (ci 0))]
abbrev yq:List AO:=
 [(mt 9 0),
  (o2 10 83 [.t 9]),
  (mt 8 10),o1 11 (.ext 0 (.t 8)),o1 12 (.ext 1 (.t 8)),o1 13 (.ext 2 (.t 8)),
  (mt 5 11),
  (mt 6 12),
  (mt 7 13)]
abbrev yp:List AO:=
 [(mt 14 7),o1 15 (.bin .neq (.t 14) (ci 0))]
abbrev yo:List AO:=
 [(mt 16 6),
  (mt 17 7),o1 2 (.mv (.c .sl0)),
  (mt 3 16),
  (mt 4 17)]
abbrev yn:List AO:=
 [(mt 18 0),
  (mt 19 5),
  (mt 20 0),o1 21 (.len (.t 20)),
  (o2 22 84 [.t 18,.t 19,(ci 0),.t 21]),
  (mt 2 22),o1 3 (.mv (ci 0)),o1 4 (.mv (ci 0))]
abbrev pO:AF:=⟨23,(.seq (.reg yr) (.seq (.reg yq) (.seq (.seq (.reg yp) (.cond (.t 15) (.seq (.reg yo) .ret) .skip)) (.seq (.reg yn) .ret)))),[.mv (.t 2),.mv (.t 3),.mv (.t 4)]⟩
theorem yu:ab Tryz.prog (aa Tryz.prog 57) 57=some pO:=by kernel_rfl
/-! compactorref21.few-/
abbrev yl:List AO:=
 [o1 2 (.mv (ci 0))]
abbrev yk:List AO:=
 [(mt 3 0),⟨some 4,none,.mo (.mi (.t 3) (ci 281474976710657))⟩,
  (mt 2 4)]
abbrev pN:AF:=⟨5,(.seq (.reg yl) (.seq (.reg yk) .ret)),[.mv (.t 2)]⟩
theorem ym:ab Tryz.prog (aa Tryz.prog 58) 58=some pN:=by kernel_rfl
/-! compactorref21.times-/
abbrev yi:List AO:=
 [o1 4 (.mv (ci 0))]
abbrev yh:List AO:=
 [(mt 5 1),o1 6 (.bin .gtr (.t 5) (ci 0)),
  (mt 7 6),
  (o5 8 7 (.mv (.t 0))),
  (o5 9 7 (.mv (.t 1))),
  (o5 10 7 (.bin .quo (ci 281474976710657) (.t 9))),
  (o5 11 7 (.bin .gtr (.t 8) (.t 10))),o1 12 (.pick (.t 7) (.t 11) (.c (.b false)))]
abbrev yg:List AO:=
 [o1 4 (.mv (ci 281474976710657))]
abbrev yf:List AO:=
 [(mt 13 0),
  (mt 14 1),o1 15 (.bin .mul (.t 13) (.t 14)),
  (o2 16 58 [.t 15]),
  (mt 4 16)]
abbrev pM:AF:=⟨17,(.seq (.reg yi) (.seq (.seq (.reg yh) (.cond (.t 12) (.seq (.reg yg) .ret) .skip)) (.seq (.reg yf) .ret))),[.mv (.t 4)]⟩
theorem yj:ab Tryz.prog (aa Tryz.prog 59) 59=some pM:=by kernel_rfl
/-! compactorref21.most-/
abbrev ya:List AO:=
 [o1 2 (.bx 44 0 (.t 0)),o1 4 (.mv (ci 0))]
abbrev x9:List AO:=
 [o1 5 (.mv (ci 0))]
abbrev x8:List AO:=
 [(mt 6 5),o1 7 (.fa 3 (.t 2)),o1 8 (.ld 1 false (.t 7)),o1 9 (.len (.t 8)),o1 10 (.bin .lss (.t 6) (.t 9))]
abbrev x7:List AO:=
 [o1 13 (.fa 3 (.t 2)),o1 14 (.ld 1 false (.t 13)),
  (mt 15 5),o1 16 (.ia 3 (.t 14) (.t 15)),o1 17 (.fa 0 (.t 16)),o1 18 (.ld 1 false (.t 17)),
  (mt 19 1),o1 20 (.bin .eql (.t 18) (.t 19))]
abbrev x6:List AO:=
 [o1 21 (.fa 3 (.t 2)),o1 22 (.ld 1 false (.t 21)),
  (mt 23 5),o1 24 (.ia 3 (.t 22) (.t 23)),o1 25 (.fa 1 (.t 24)),o1 26 (.ld 1 false (.t 25)),
  (mt 4 26)]
abbrev yd:AC:=
 (.seq (.reg x7) (.cond (.t 20) (.seq (.reg x6) .ret) .skip))
abbrev x5:List AO:=
 [(mt 11 5),o1 12 (.bin .add (.t 11) (ci 1)),
  (mt 5 12)]
abbrev ye:AC:=
 (.seq (.seq (.reg x8) (.cond (.t 10) .skip (.exit 0))) (.seq (.block 1 yd) (.reg x5)))
abbrev yc:AC:=
 (.loop ye)
abbrev x4:List AO:=
 [o1 4 (.mv (ci 0))]
abbrev pL:AF:=⟨27,(.seq (.reg ya) (.seq (.seq (.reg x9) (.block 0 yc)) (.seq (.reg x4) .ret))),[.mv (.t 4)]⟩
theorem yb:ab Tryz.prog (aa Tryz.prog 60) 60=some pL:=by kernel_rfl
/-! verifier.widening$1-/
abbrev xZ:List AO:=
 [o1 6 (.mv (.c .sl0)),o1 7 (.mv (ci 0))]
abbrev xY:List AO:=
 [(mt 8 2),
  (mt 9 1),
  (mt 6 8),
  (mt 7 9)]
abbrev pK:AF:=⟨10,(.seq (.reg xZ) (.seq (.reg xY) .ret)),[.mv (.t 6),.mv (.t 7)]⟩
theorem x3:ab Tryz.prog (aa Tryz.prog 67) 67=some pK:=by kernel_rfl
/-! compactorref18.partners-/
abbrev xW:List AO:=
 [o1 2 (.mv (.c .sl0)),o1 3 (.mv (ci 0)),o1 4 (.mv (ci 0))]
abbrev xV:List AO:=
 [(mt 10 0),o1 11 (.len (.t 10)),o1 12 (.bin .gtr (.t 11) (ci 1024))]
abbrev xU:List AO:=
 [o1 2 (.mv (.c .sl0)),o1 3 (.mv (ci 0)),o1 4 (.mv (ci 6))]
abbrev xT:List AO:=
 [(mt 13 0),o1 14 (.len (.t 13)),o1 15 (.ms 3 1 8 [.n .i64 0] (.t 14) (.t 14)),
  (mt 5 15)]
abbrev xS:List AO:=
 [o1 6 (.mv (.c .sl0)),o1 7 (.mv (.c .sl0))]
abbrev xR:List AO:=
 [o1 8 (.mv (ci 0))]
abbrev xQ:List AO:=
 [(mt 16 8),
  (mt 17 0),o1 18 (.len (.t 17)),o1 19 (.bin .lss (.t 16) (.t 18))]
abbrev xP:List AO:=
 [(mt 22 5),
  (mt 23 8),o1 24 (.ia 1 (.t 22) (.t 23)),
  (o3 (.st 1 (.t 24) (.c (.n .i64 (-1)))))]
abbrev xO:List AO:=
 [(mt 25 6),o1 26 (.len (.t 25)),
  (mt 9 26)]
abbrev xN:List AO:=
 [(mt 27 0),
  (mt 28 8),o1 29 (.ia 2 (.t 27) (.t 28)),o1 30 (.fa 0 (.t 29)),o1 31 (.ld 1 false (.t 30))]
abbrev lV:List AO:=
 [o1 33 (.bin .eql (.t 31) (ci 27)),
  (mt 32 33)]
abbrev lU:List AO:=
 [o1 34 (.bin .eql (.t 31) (ci 29)),
  (mt 32 34)]
abbrev lS:List AO:=
 [(mt 35 9),o1 36 (.bin .eql (.t 35) (ci 8))]
abbrev lR:List AO:=
 [(mt 37 8),o1 2 (.mv (.c .sl0)),
  (mt 3 37),o1 4 (.mv (ci 15))]
abbrev lQ:List AO:=
 [(mt 38 6),
  (mt 39 8),o1 40 (.bs 3 1 1 [.n .i64 0] [(0,1,(.t 39))]),o1 41 (.app 3 1 8 (.t 38) (.t 40)),
  (mt 42 7),o1 43 (.bs 3 1 1 [.n .i64 0] [(0,1,(.c (.n .i64 (-1))))]),o1 44 (.app 3 1 8 (.t 42) (.t 43)),
  (mt 6 41),
  (mt 7 44)]
abbrev lP:List AO:=
 [o1 46 (.bin .eql (.t 31) (ci 28)),
  (mt 45 46)]
abbrev lO:List AO:=
 [(mt 47 9),o1 48 (.bin .eql (.t 47) (ci 0)),
  (mt 49 48),
  (o4 50 49 (.mv (.t 0))),
  (o4 51 49 (.mv (.t 6))),
  (o4 52 49 (.mv (.t 9))),
  (o4 53 49 (.bin .sub (.t 52) (ci 1))),
  (o4 54 49 (.ia 1 (.t 51) (.t 53))),
  (o4 55 49 (.ld 1 false (.t 54))),
  (o4 56 49 (.ia 2 (.t 50) (.t 55))),
  (o4 57 49 (.fa 0 (.t 56))),
  (o4 58 49 (.ld 1 false (.t 57))),
  (o4 59 49 (.bin .neq (.t 58) (ci 27))),o1 60 (.pick (.t 49) (.c (.b true)) (.t 59)),
  (mt 61 60),
  (o4 62 61 (.mv (.t 7))),
  (o4 63 61 (.mv (.t 9))),
  (o4 64 61 (.bin .sub (.t 63) (ci 1))),
  (o4 65 61 (.ia 1 (.t 62) (.t 64))),
  (o4 66 61 (.ld 1 false (.t 65))),
  (o4 67 61 (.bin .geq (.t 66) (ci 0))),o1 68 (.pick (.t 61) (.c (.b true)) (.t 67))]
abbrev lN:List AO:=
 [(mt 69 8),o1 2 (.mv (.c .sl0)),
  (mt 3 69),o1 4 (.mv (ci 15))]
abbrev lM:List AO:=
 [(mt 70 7),
  (mt 71 9),o1 72 (.bin .sub (.t 71) (ci 1)),
  (mt 73 8),o1 74 (.ia 1 (.t 70) (.t 72)),
  (o3 (.st 1 (.t 74) (.t 73)))]
abbrev lL:List AO:=
 [(mt 75 5),
  (mt 76 6),
  (mt 77 9),o1 78 (.bin .sub (.t 77) (ci 1)),o1 79 (.ia 1 (.t 76) (.t 78)),o1 80 (.ld 1 false (.t 79)),
  (mt 81 8),o1 82 (.ia 1 (.t 75) (.t 80)),
  (o3 (.st 1 (.t 82) (.t 81)))]
abbrev lK:List AO:=
 [o1 84 (.bin .eql (.t 31) (ci 30)),
  (mt 83 84)]
abbrev lJ:List AO:=
 [(mt 85 0),
  (mt 86 6),
  (o2 87 100 [.t 85,.t 86]),o1 88 (.bin .lss (.t 87) (ci 0))]
abbrev lI:List AO:=
 [(mt 89 8),o1 2 (.mv (.c .sl0)),
  (mt 3 89),o1 4 (.mv (ci 15))]
abbrev lH:List AO:=
 [o1 91 (.bin .eql (.t 31) (ci 31)),
  (mt 90 91)]
abbrev lG:List AO:=
 [(mt 92 9),o1 93 (.bin .eql (.t 92) (ci 0))]
abbrev lF:List AO:=
 [(mt 94 8),o1 2 (.mv (.c .sl0)),
  (mt 3 94),o1 4 (.mv (ci 15))]
abbrev lD:List AO:=
 [(mt 95 5),
  (mt 96 8),
  (mt 97 6),
  (mt 98 9),o1 99 (.bin .sub (.t 98) (ci 1)),o1 100 (.ia 1 (.t 97) (.t 99)),o1 101 (.ld 1 false (.t 100)),o1 102 (.ia 1 (.t 95) (.t 96)),
  (o3 (.st 1 (.t 102) (.t 101)))]
abbrev lC:List AO:=
 [(mt 103 7),
  (mt 104 9),o1 105 (.bin .sub (.t 104) (ci 1)),o1 106 (.ia 1 (.t 103) (.t 105)),o1 107 (.ld 1 false (.t 106)),o1 108 (.bin .geq (.t 107) (ci 0))]
abbrev lB:List AO:=
 [(mt 109 5),
  (mt 110 7),
  (mt 111 9),o1 112 (.bin .sub (.t 111) (ci 1)),o1 113 (.ia 1 (.t 110) (.t 112)),o1 114 (.ld 1 false (.t 113)),
  (mt 115 8),o1 116 (.ia 1 (.t 109) (.t 114)),
  (o3 (.st 1 (.t 116) (.t 115)))]
abbrev lA:List AO:=
 [(mt 117 5),
  (mt 118 6),
  (mt 119 9),o1 120 (.bin .sub (.t 119) (ci 1)),o1 121 (.ia 1 (.t 118) (.t 120)),o1 122 (.ld 1 false (.t 121)),
  (mt 123 8),o1 124 (.ia 1 (.t 117) (.t 122)),
  (o3 (.st 1 (.t 124) (.t 123)))]
abbrev lW:List (Nat×AO):=
 [(2,(mt 125 6)),
  (2,(mt 126 9)),(2,(o1 127 (.bin .sub (.t 126) (ci 1)))),(2,(o1 128 (.sl 1 (.t 125) none (some (.t 127))))),
  (2,(mt 129 7)),
  (2,(mt 130 9)),(2,(o1 131 (.bin .sub (.t 130) (ci 1)))),(2,(o1 132 (.sl 1 (.t 129) none (some (.t 131))))),
  (2,(mt 6 128)),
  (2,(mt 7 132))]
abbrev lZ:AC:=
 (.seq (.seq (.reg lV) (.cond (.t 32) .skip (.reg lU))) (.cond (.t 32) (.seq (.seq (.reg lS) (.cond (.t 36) (.seq (.reg lR) .ret) .skip)) (.reg lQ)) (.seq (.reg lP) (.cond (.t 45) (.seq (.seq (.reg lO) (.cond (.t 68) (.seq (.reg lN) .ret) .skip)) (.seq (.reg lM) (.reg lL))) (.seq (.reg lK) (.cond (.t 83) (.seq (.reg lJ) (.cond (.t 88) (.seq (.reg lI) .ret) .skip)) (.seq (.reg lH) (.cond (.t 90) (.seq (.seq (.reg lG) (.cond (.t 93) (.seq (.reg lF) .ret) .skip)) (.seq (.reg lD) (.seq (.seq (.reg lC) (.cond (.t 108) (.reg lB) (.reg lA))) (.mix lW)))) .skip))))))))
abbrev lY:AC:=
 (.seq (.reg xP) (.seq (.reg xO) (.seq (.reg xN) (.block 2 lZ))))
abbrev ly:List AO:=
 [(mt 20 8),o1 21 (.bin .add (.t 20) (ci 1)),
  (mt 8 21)]
abbrev l3:AC:=
 (.seq (.seq (.reg xQ) (.cond (.t 19) .skip (.exit 0))) (.seq (.block 1 lY) (.reg ly)))
abbrev lX:AC:=
 (.loop l3)
abbrev lx:List AO:=
 [(mt 133 6),o1 134 (.len (.t 133)),o1 135 (.bin .gtr (.t 134) (ci 0))]
abbrev lw:List AO:=
 [(mt 136 0),o1 137 (.len (.t 136)),o1 2 (.mv (.c .sl0)),
  (mt 3 137),o1 4 (.mv (ci 15))]
abbrev lu:List AO:=
 [(mt 138 0),
  (mt 139 5),
  (o2 140 101 [.t 138,.t 139]),
  (mt 2 140),o1 3 (.mv (ci 0)),o1 4 (.mv (ci 0))]
abbrev pJ:AF:=⟨141,(.seq (.reg xW) (.seq (.seq (.reg xV) (.cond (.t 12) (.seq (.reg xU) .ret) .skip)) (.seq (.reg xT) (.seq (.reg xS) (.seq (.seq (.reg xR) (.block 0 lX)) (.seq (.seq (.reg lx) (.cond (.t 135) (.seq (.reg lw) .ret) .skip)) (.seq (.reg lu) .ret))))))),[.mv (.t 2),.mv (.t 3),.mv (.t 4)]⟩
theorem xX:ab Tryz.prog (aa Tryz.prog 83) 83=some pJ:=by kernel_rfl
/-! compactorref18.tree-/
abbrev xJ:List AO:=
 [o1 8 (.mv (.c .sl0))]
abbrev xI:List AO:=
 [o1 9 (.mv (.c .sl0))]
abbrev xH:List AO:=
 [(mt 14 2),
  (mt 10 14)]
abbrev xG:List AO:=
 [(mt 15 10),
  (mt 16 3),o1 17 (.bin .lss (.t 15) (.t 16))]
abbrev xF:List AO:=
 [(mt 18 0),
  (mt 19 10),o1 20 (.ia 2 (.t 18) (.t 19)),o1 21 (.fa 0 (.t 20)),o1 22 (.ld 1 false (.t 21)),o1 23 (.bin .neq (.t 22) (ci 27)),
  (mt 24 23),
  (o5 25 24 (.mv (.t 0))),
  (o5 26 24 (.mv (.t 10))),
  (o5 27 24 (.ia 2 (.t 25) (.t 26))),
  (o5 28 24 (.fa 0 (.t 27))),
  (o5 29 24 (.ld 1 false (.t 28))),
  (o5 30 24 (.bin .neq (.t 29) (ci 29))),o1 31 (.pick (.t 24) (.t 30) (.c (.b false)))]
abbrev xE:List AO:=
 [(mt 32 10),
  (mt 11 32)]
abbrev xD:List AO:=
 [(mt 33 11),
  (mt 34 3),o1 35 (.bin .lss (.t 33) (.t 34)),
  (mt 36 35),
  (o5 37 36 (.mv (.t 0))),
  (o5 38 36 (.mv (.t 11))),
  (o5 39 36 (.ia 2 (.t 37) (.t 38))),
  (o5 40 36 (.fa 0 (.t 39))),
  (o5 41 36 (.ld 1 false (.t 40))),
  (o5 42 36 (.bin .neq (.t 41) (ci 27))),o1 43 (.pick (.t 36) (.t 42) (.c (.b false))),
  (mt 44 43),
  (o5 45 44 (.mv (.t 0))),
  (o5 46 44 (.mv (.t 11))),
  (o5 47 44 (.ia 2 (.t 45) (.t 46))),
  (o5 48 44 (.fa 0 (.t 47))),
  (o5 49 44 (.ld 1 false (.t 48))),
  (o5 50 44 (.bin .neq (.t 49) (ci 29))),o1 51 (.pick (.t 44) (.t 50) (.c (.b false)))]
abbrev xC:List AO:=
 [(mt 52 11),o1 53 (.bin .add (.t 52) (ci 1)),
  (mt 11 53)]
abbrev xL:AC:=
 (.reg xC)
abbrev xM:AC:=
 (.seq (.seq (.reg xD) (.cond (.t 51) .skip (.exit 2))) (.block 3 xL))
abbrev lq:AC:=
 (.loop xM)
abbrev ll:List AO:=
 [(mt 54 9),
  (mt 55 10),
  (mt 56 11),o1 57 (.bd [.n .i64 0,.n .i64 0,.n .i64 0,.sl0,.sl0] [(0,1,(.c (.n .i64 (-1)))),(1,1,(.t 55)),(2,1,(.t 56))]),o1 58 (.bs 106 5 1 [.n .i64 0,.n .i64 0,.n .i64 0,.sl0,.sl0] [(0,5,(.t 57))]),o1 59 (.app 106 5 72 (.t 54) (.t 58)),
  (mt 9 59)]
abbrev lj:List AO:=
 [(mt 60 11),
  (mt 10 60)]
abbrev lh:List AO:=
 [(mt 61 0),
  (mt 62 10),o1 63 (.ia 2 (.t 61) (.t 62)),o1 64 (.fa 0 (.t 63)),o1 65 (.ld 1 false (.t 64)),
  (mt 66 10),o1 67 (.bd [.n .i64 0,.n .i64 0,.n .i64 0,.sl0,.sl0] [(0,1,(.t 65)),(1,1,(.t 66))]),o1 12 (.al 106 [.n .i64 0,.n .i64 0,.n .i64 0,.sl0,.sl0]),
  (o3 (.st 5 (.t 12) (.t 67)))]
abbrev lg:List AO:=
 [(mt 68 1),
  (mt 69 10),o1 70 (.ia 1 (.t 68) (.t 69)),o1 71 (.ld 1 false (.t 70)),
  (mt 13 71)]
abbrev lc:List AO:=
 [(mt 72 0),
  (mt 73 1),
  (mt 74 10),o1 75 (.bin .add (.t 74) (ci 1)),
  (mt 76 13),
  (o2 77 84 [.t 72,.t 73,.t 75,.t 76]),o1 78 (.fa 3 (.t 12)),
  (o3 (.st 1 (.t 78) (.t 77)))]
abbrev lb:List AO:=
 [(mt 79 13),o1 80 (.bin .add (.t 79) (ci 1)),o1 81 (.fa 2 (.t 12)),
  (o3 (.st 1 (.t 81) (.t 80)))]
abbrev la:List AO:=
 [(mt 82 0),
  (mt 83 13),o1 84 (.ia 2 (.t 82) (.t 83)),o1 85 (.fa 0 (.t 84)),o1 86 (.ld 1 false (.t 85)),o1 87 (.bin .eql (.t 86) (ci 28))]
abbrev k9:List AO:=
 [(mt 88 0),
  (mt 89 1),
  (mt 90 13),o1 91 (.bin .add (.t 90) (ci 1)),
  (mt 92 1),
  (mt 93 13),o1 94 (.ia 1 (.t 92) (.t 93)),o1 95 (.ld 1 false (.t 94)),
  (o2 96 84 [.t 88,.t 89,.t 91,.t 95]),o1 97 (.fa 4 (.t 12)),
  (o3 (.st 1 (.t 97) (.t 96)))]
abbrev k8:List AO:=
 [(mt 98 1),
  (mt 99 13),o1 100 (.ia 1 (.t 98) (.t 99)),o1 101 (.ld 1 false (.t 100)),o1 102 (.bin .add (.t 101) (ci 1)),o1 103 (.fa 2 (.t 12)),
  (o3 (.st 1 (.t 103) (.t 102)))]
abbrev kZ:List AO:=
 [(mt 104 9),o1 105 (.ld 5 true (.t 12)),o1 106 (.bs 106 5 1 [.n .i64 0,.n .i64 0,.n .i64 0,.sl0,.sl0] [(0,5,(.t 105))]),o1 107 (.app 106 5 72 (.t 104) (.t 106)),
  (mt 9 107)]
abbrev kY:List AO:=
 [o1 108 (.fa 2 (.t 12)),o1 109 (.ld 1 false (.t 108)),
  (mt 10 109)]
abbrev lp:AC:=
 (.seq (.seq (.reg xF) (.cond (.t 31) (.seq (.reg xE) (.seq (.block 2 lq) (.seq (.reg ll) (.seq (.reg lj) (.exit 1))))) .skip)) (.seq (.reg lh) (.seq (.reg lg) (.seq (.reg lc) (.seq (.reg lb) (.seq (.seq (.reg la) (.cond (.t 87) (.seq (.reg k9) (.reg k8)) .skip)) (.seq (.reg kZ) (.reg kY))))))))
abbrev lr:AC:=
 (.seq (.seq (.reg xG) (.cond (.t 17) .skip (.exit 0))) (.block 1 lp))
abbrev lm:AC:=
 (.loop lr)
abbrev kX:List AO:=
 [(mt 110 9),
  (mt 8 110)]
abbrev pH:AF:=⟨111,(.seq (.reg xJ) (.seq (.reg xI) (.seq (.reg xH) (.seq (.block 0 lm) (.seq (.reg kX) .ret))))),[.mv (.t 8)]⟩
theorem xK:ab Tryz.prog (aa Tryz.prog 84) 84=some pH:=by kernel_rfl
/-! instruction.operations$1-/
abbrev xA:List AO:=
 [o1 2 (.al 96 [.s ⟨#[]⟩,.s ⟨#[]⟩,.s ⟨#[]⟩,.n .u64 0,.b false])]
abbrev xz:List AO:=
 [(mt 3 0),o1 4 (.bd [.s ⟨#[]⟩,.s ⟨#[]⟩,.s ⟨#[]⟩,.n .u64 0,.b false] [(0,1,(.t 3)),(1,1,(.c (.s ⟨#[110,110]⟩))),(2,1,(.c (.s ⟨#[110]⟩))),(3,1,(.c (.n .u64 1))),(4,1,(.c (.b false)))]),
  (o3 (.st 5 (.t 2) (.t 4)))]
abbrev pG:AF:=⟨5,(.seq (.reg xA) (.seq (.reg xz) .ret)),[.ld 5 true (.t 2)]⟩
theorem xB:ab Tryz.prog (aa Tryz.prog 95) 95=some pG:=by kernel_rfl
/-! instruction.operations$2-/
abbrev xw:List AO:=
 [o1 6 (.al 96 [.s ⟨#[]⟩,.s ⟨#[]⟩,.s ⟨#[]⟩,.n .u64 0,.b false])]
abbrev xv:List AO:=
 [(mt 7 0),
  (mt 8 1),
  (mt 9 2),o1 10 (.bd [.s ⟨#[]⟩,.s ⟨#[]⟩,.s ⟨#[]⟩,.n .u64 0,.b false] [(0,1,(.t 7)),(1,1,(.t 8)),(2,1,(.t 9)),(3,1,(.c (.n .u64 1))),(4,1,(.c (.b false)))]),
  (o3 (.st 5 (.t 6) (.t 10)))]
abbrev pF:AF:=⟨11,(.seq (.reg xw) (.seq (.reg xv) .ret)),[.ld 5 true (.t 6)]⟩
theorem xy:ab Tryz.prog (aa Tryz.prog 96) 96=some pF:=by kernel_rfl
/-! compactorref18.innermost-/
abbrev xp:List AO:=
 [o1 4 (.mv (ci 0))]
abbrev xo:List AO:=
 [(mt 6 1),o1 7 (.len (.t 6)),o1 8 (.bin .sub (.t 7) (ci 1)),
  (mt 5 8)]
abbrev xn:List AO:=
 [(mt 9 5),o1 10 (.bin .geq (.t 9) (ci 0))]
abbrev xl:List AO:=
 [(mt 13 0),
  (mt 14 1),
  (mt 15 5),o1 16 (.ia 1 (.t 14) (.t 15)),o1 17 (.ld 1 false (.t 16)),o1 18 (.ia 2 (.t 13) (.t 17)),o1 19 (.fa 0 (.t 18)),o1 20 (.ld 1 false (.t 19)),o1 21 (.bin .eql (.t 20) (ci 29))]
abbrev xk:List AO:=
 [(mt 22 1),
  (mt 23 5),o1 24 (.ia 1 (.t 22) (.t 23)),o1 25 (.ld 1 false (.t 24)),
  (mt 4 25)]
abbrev xt:AC:=
 (.seq (.reg xl) (.cond (.t 21) (.seq (.reg xk) .ret) .skip))
abbrev xj:List AO:=
 [(mt 11 5),o1 12 (.bin .sub (.t 11) (ci 1)),
  (mt 5 12)]
abbrev xu:AC:=
 (.seq (.seq (.reg xn) (.cond (.t 10) .skip (.exit 0))) (.seq (.block 1 xt) (.reg xj)))
abbrev xr:AC:=
 (.loop xu)
abbrev xi:List AO:=
 [o1 4 (.mv (.c (.n .i64 (-1))))]
abbrev pE:AF:=⟨26,(.seq (.reg xp) (.seq (.seq (.reg xo) (.block 0 xr)) (.seq (.reg xi) .ret))),[.mv (.t 4)]⟩
theorem xq:ab Tryz.prog (aa Tryz.prog 100) 100=some pE:=by kernel_rfl
/-! compactorref18.leaves-/
abbrev xg:List AO:=
 [o1 4 (.mv (.c .sl0))]
abbrev xf:List AO:=
 [o1 5 (.mv (.c .sl0))]
abbrev xe:List AO:=
 [o1 6 (.mv (ci 0))]
abbrev xd:List AO:=
 [(mt 7 6),
  (mt 8 0),o1 9 (.len (.t 8)),o1 10 (.bin .lss (.t 7) (.t 9))]
abbrev xc:List AO:=
 [(mt 14 0),
  (mt 15 6),o1 16 (.ia 2 (.t 14) (.t 15)),o1 17 (.fa 0 (.t 16)),o1 18 (.ld 1 false (.t 17)),o1 19 (.bin .eql (.t 18) (ci 29)),
  (mt 13 19)]
abbrev xa:List AO:=
 [(mt 20 5),
  (mt 21 6),o1 22 (.bs 3 1 1 [.n .i64 0] [(0,1,(.t 21))]),o1 23 (.app 3 1 8 (.t 20) (.t 22)),
  (mt 5 23)]
abbrev w9:List AO:=
 [(mt 25 0),
  (mt 26 6),o1 27 (.ia 2 (.t 25) (.t 26)),o1 28 (.fa 0 (.t 27)),o1 29 (.ld 1 false (.t 28)),o1 30 (.bin .eql (.t 29) (ci 31)),
  (mt 31 30),
  (o5 32 31 (.mv (.t 0))),
  (o5 33 31 (.mv (.t 1))),
  (o5 34 31 (.mv (.t 6))),
  (o5 35 31 (.ia 1 (.t 33) (.t 34))),
  (o5 36 31 (.ld 1 false (.t 35))),
  (o5 37 31 (.ia 2 (.t 32) (.t 36))),
  (o5 38 31 (.fa 0 (.t 37))),
  (o5 39 31 (.ld 1 false (.t 38))),
  (o5 40 31 (.bin .eql (.t 39) (ci 29))),o1 41 (.pick (.t 31) (.t 40) (.c (.b false))),
  (mt 24 41)]
abbrev w8:List AO:=
 [(mt 42 5),
  (mt 43 5),o1 44 (.len (.t 43)),o1 45 (.bin .sub (.t 44) (ci 1)),o1 46 (.sl 1 (.t 42) none (some (.t 45))),
  (mt 5 46)]
abbrev w7:List AO:=
 [(mt 48 0),
  (mt 49 6),o1 50 (.ia 2 (.t 48) (.t 49)),o1 51 (.fa 0 (.t 50)),o1 52 (.ld 1 false (.t 51)),o1 53 (.bin .eql (.t 52) (ci 30)),
  (mt 47 53)]
abbrev w6:List AO:=
 [(mt 54 1),
  (mt 55 6),
  (mt 56 1),
  (mt 57 5),
  (mt 58 5),o1 59 (.len (.t 58)),o1 60 (.bin .sub (.t 59) (ci 1)),o1 61 (.ia 1 (.t 57) (.t 60)),o1 62 (.ld 1 false (.t 61)),o1 63 (.ia 1 (.t 56) (.t 62)),o1 64 (.ld 1 false (.t 63)),o1 65 (.ia 1 (.t 54) (.t 55)),
  (o3 (.st 1 (.t 65) (.t 64)))]
abbrev kV:AC:=
 (.seq (.reg xc) (.cond (.t 13) (.reg xa) (.seq (.reg w9) (.cond (.t 24) (.reg w8) (.seq (.reg w7) (.cond (.t 47) (.reg w6) .skip))))))
abbrev kU:AC:=
 (.block 2 kV)
abbrev kS:List AO:=
 [(mt 11 6),o1 12 (.bin .add (.t 11) (ci 1)),
  (mt 6 12)]
abbrev kW:AC:=
 (.seq (.seq (.reg xd) (.cond (.t 10) .skip (.exit 0))) (.seq (.block 1 kU) (.reg kS)))
abbrev kT:AC:=
 (.loop kW)
abbrev kR:List AO:=
 [(mt 66 1),
  (mt 4 66)]
abbrev pD:AF:=⟨67,(.seq (.reg xg) (.seq (.reg xf) (.seq (.seq (.reg xe) (.block 0 kT)) (.seq (.reg kR) .ret)))),[.mv (.t 4)]⟩
theorem xh:ab Tryz.prog (aa Tryz.prog 101) 101=some pD:=by kernel_rfl
/-! interval.Within-/
abbrev w4:List AO:=
 [o1 2 (.bx 123 0 (.t 0)),o1 3 (.bx 123 0 (.t 1)),o1 4 (.mv (.c (.b false)))]
abbrev w3:List AO:=
 [o1 5 (.ld 2 true (.t 2)),o1 6 (.ld 2 true (.t 3)),
  (o2 7 92 [.t 5,.t 6]),
  (mt 8 7),
  (o5 9 8 (.fa 0 (.t 3))),
  (o5 10 8 (.ld 1 false (.t 9))),
  (o5 11 8 (.fa 0 (.t 2))),
  (o5 12 8 (.ld 1 false (.t 11))),
  (o5 13 8 (.bin .leq (.t 10) (.t 12))),o1 14 (.pick (.t 8) (.t 13) (.c (.b false))),
  (mt 15 14),
  (o5 16 15 (.fa 1 (.t 2))),
  (o5 17 15 (.ld 1 false (.t 16))),
  (o5 18 15 (.fa 1 (.t 3))),
  (o5 19 15 (.ld 1 false (.t 18))),
  (o5 20 15 (.bin .leq (.t 17) (.t 19))),o1 21 (.pick (.t 15) (.t 20) (.c (.b false))),
  (mt 4 21)]
abbrev pC:AF:=⟨22,(.seq (.reg w4) (.seq (.reg w3) .ret)),[.mv (.t 4)]⟩
theorem w5:ab Tryz.prog (aa Tryz.prog 118) 118=some pC:=by kernel_rfl
/-! interval.operands.add-/
abbrev wY:List AO:=
 [o1 1 (.bx 202 0 (.t 0)),o1 2 (.al 123 [.n .i64 0,.n .i64 0])]
abbrev wX:List AO:=
 [o1 3 (.fa 0 (.t 1)),o1 4 (.ld 1 false (.t 3)),o1 5 (.fa 2 (.t 1)),o1 6 (.ld 1 false (.t 5)),o1 7 (.bin .add (.t 4) (.t 6)),o1 8 (.fa 1 (.t 1)),o1 9 (.ld 1 false (.t 8)),o1 10 (.fa 3 (.t 1)),o1 11 (.ld 1 false (.t 10)),o1 12 (.bin .add (.t 9) (.t 11)),
  (o2 13 138 [.t 7,.t 12]),
  (o3 (.st 2 (.t 2) (.t 13)))]
abbrev pB:AF:=⟨14,(.seq (.reg wY) (.seq (.reg wX) .ret)),[.ld 2 true (.t 2)]⟩
theorem wZ:ab Tryz.prog (aa Tryz.prog 124) 124=some pB:=by kernel_rfl
/-! interval.operands.sub-/
abbrev wV:List AO:=
 [o1 1 (.bx 202 0 (.t 0)),o1 2 (.al 123 [.n .i64 0,.n .i64 0])]
abbrev wU:List AO:=
 [o1 3 (.fa 0 (.t 1)),o1 4 (.ld 1 false (.t 3)),o1 5 (.fa 3 (.t 1)),o1 6 (.ld 1 false (.t 5)),o1 7 (.bin .sub (.t 4) (.t 6)),o1 8 (.fa 1 (.t 1)),o1 9 (.ld 1 false (.t 8)),o1 10 (.fa 2 (.t 1)),o1 11 (.ld 1 false (.t 10)),o1 12 (.bin .sub (.t 9) (.t 11)),
  (o2 13 138 [.t 7,.t 12]),
  (o3 (.st 2 (.t 2) (.t 13)))]
abbrev pA:AF:=⟨14,(.seq (.reg wV) (.seq (.reg wU) .ret)),[.ld 2 true (.t 2)]⟩
theorem wW:ab Tryz.prog (aa Tryz.prog 125) 125=some pA:=by kernel_rfl
/-! interval.operands.mul-/
abbrev wR:List AO:=
 [o1 1 (.bx 202 0 (.t 0)),o1 2 (.al 123 [.n .i64 0,.n .i64 0])]
abbrev wT:List (Nat×AO):=
 [(2,(o1 3 (.fa 3 (.t 1)))),(1,(o1 4 (.ld 1 false (.t 3)))),(2,(o1 5 (.bin .gtr (.t 4) (ci 0)))),
  (2,(mt 6 5)),
  (2,(o5 7 6 (.fa 1 (.t 1)))),
  (2,(o5 9 6 (.fa 3 (.t 1)))),
  (1,(o5 8 6 (.ld 1 false (.t 7)))),
  (1,(o5 10 6 (.ld 1 false (.t 9)))),
  (2,(o5 11 6 (.bin .quo (ci 4294967295) (.t 10)))),
  (2,(o5 12 6 (.bin .gtr (.t 8) (.t 11)))),(2,(o1 13 (.pick (.t 6) (.t 12) (.c (.b false)))))]
abbrev wQ:List AO:=
 [(o2 14 73 []),
  (o3 (.st 2 (.t 2) (.t 14)))]
abbrev wP:List AO:=
 [o1 15 (.fa 0 (.t 1)),o1 16 (.ld 1 false (.t 15)),o1 17 (.fa 2 (.t 1)),o1 18 (.ld 1 false (.t 17)),o1 19 (.bin .mul (.t 16) (.t 18)),o1 20 (.fa 1 (.t 1)),o1 21 (.ld 1 false (.t 20)),o1 22 (.fa 3 (.t 1)),o1 23 (.ld 1 false (.t 22)),o1 24 (.bin .mul (.t 21) (.t 23)),o1 25 (.bd [.n .i64 0,.n .i64 0] [(0,1,(.t 19)),(1,1,(.t 24))]),
  (o3 (.st 2 (.t 2) (.t 25)))]
abbrev pz:AF:=⟨26,(.seq (.reg wR) (.seq (.seq (.mix wT) (.cond (.t 13) (.seq (.reg wQ) .ret) .skip)) (.seq (.reg wP) .ret))),[.ld 2 true (.t 2)]⟩
theorem wS:ab Tryz.prog (aa Tryz.prog 126) 126=some pz:=by kernel_rfl
/-! interval.operands.div-/
abbrev wM:List AO:=
 [o1 1 (.bx 202 0 (.t 0)),o1 2 (.al 123 [.n .i64 0,.n .i64 0])]
abbrev wO:List (Nat×AO):=
 [(2,(o1 3 (.fa 0 (.t 1)))),(2,(o1 5 (.fa 3 (.t 1)))),(2,(o1 8 (.fa 1 (.t 1)))),(2,(o1 10 (.fa 2 (.t 1)))),(1,(o1 4 (.ld 1 false (.t 3)))),(1,(o1 6 (.ld 1 false (.t 5)))),(2,(o1 7 (.bin .quo (.t 4) (.t 6)))),(1,(o1 9 (.ld 1 false (.t 8)))),(1,(o1 11 (.ld 1 false (.t 10)))),(2,(o1 12 (.bin .quo (.t 9) (.t 11)))),(2,(o1 13 (.bd [.n .i64 0,.n .i64 0] [(0,1,(.t 7)),(1,1,(.t 12))]))),
  (3,(o3 (.st 2 (.t 2) (.t 13))))]
abbrev py:AF:=⟨14,(.seq (.reg wM) (.seq (.mix wO) .ret)),[.ld 2 true (.t 2)]⟩
theorem wN:ab Tryz.prog (aa Tryz.prog 127) 127=some py:=by kernel_rfl
/-! interval.operands.mod-/
abbrev wK:List AO:=
 [o1 1 (.bx 202 0 (.t 0)),o1 2 (.al 123 [.n .i64 0,.n .i64 0])]
abbrev wJ:List AO:=
 [o1 3 (.fa 1 (.t 1)),o1 4 (.ld 1 false (.t 3)),o1 5 (.fa 2 (.t 1)),o1 6 (.ld 1 false (.t 5)),o1 7 (.bin .lss (.t 4) (.t 6))]
abbrev wI:List AO:=
 [o1 8 (.fa 0 (.t 1)),o1 9 (.ld 1 false (.t 8)),o1 10 (.fa 1 (.t 1)),o1 11 (.ld 1 false (.t 10)),o1 12 (.bd [.n .i64 0,.n .i64 0] [(0,1,(.t 9)),(1,1,(.t 11))]),
  (o3 (.st 2 (.t 2) (.t 12)))]
abbrev wH:List AO:=
 [o1 13 (.fa 1 (.t 1)),o1 14 (.ld 1 false (.t 13)),o1 15 (.fa 3 (.t 1)),o1 16 (.ld 1 false (.t 15)),o1 17 (.bin .sub (.t 16) (ci 1)),⟨some 18,none,.mo (.mi (.t 14) (.t 17))⟩,o1 19 (.bd [.n .i64 0,.n .i64 0] [(1,1,(.t 18))]),
  (o3 (.st 2 (.t 2) (.t 19)))]
abbrev px:AF:=⟨20,(.seq (.reg wK) (.seq (.seq (.reg wJ) (.cond (.t 7) (.seq (.reg wI) .ret) .skip)) (.seq (.reg wH) .ret))),[.ld 2 true (.t 2)]⟩
theorem wL:ab Tryz.prog (aa Tryz.prog 128) 128=some px:=by kernel_rfl
/-! interval.operands.and-/
abbrev wF:List AO:=
 [o1 1 (.bx 202 0 (.t 0)),o1 2 (.al 123 [.n .i64 0,.n .i64 0])]
abbrev wE:List AO:=
 [o1 3 (.fa 1 (.t 1)),o1 4 (.ld 1 false (.t 3)),o1 5 (.fa 3 (.t 1)),o1 6 (.ld 1 false (.t 5)),⟨some 7,none,.mo (.mi (.t 4) (.t 6))⟩,o1 8 (.bd [.n .i64 0,.n .i64 0] [(1,1,(.t 7))]),
  (o3 (.st 2 (.t 2) (.t 8)))]
abbrev pw:AF:=⟨9,(.seq (.reg wF) (.seq (.reg wE) .ret)),[.ld 2 true (.t 2)]⟩
theorem wG:ab Tryz.prog (aa Tryz.prog 129) 129=some pw:=by kernel_rfl
/-! interval.operands.or-/
abbrev wB:List AO:=
 [o1 1 (.bx 202 0 (.t 0)),o1 2 (.al 123 [.n .i64 0,.n .i64 0])]
abbrev wD:List (Nat×AO):=
 [(2,(o1 3 (.fa 0 (.t 1)))),(1,(o1 4 (.ld 1 false (.t 3)))),(2,(o1 5 (.fa 2 (.t 1)))),(1,(o1 6 (.ld 1 false (.t 5)))),(2,(o1 8 (.fa 1 (.t 1)))),(1,(o1 9 (.ld 1 false (.t 8)))),(2,(o1 10 (.fa 3 (.t 1)))),(1,(o1 11 (.ld 1 false (.t 10))))]
abbrev wA:AT:=
 (.alt ⟨some 7,none,.mo (.mx (.t 4) (.t 6))⟩ (.alt ⟨some 12,none,.mo (.mx (.t 9) (.t 11))⟩ (.alt (o2 13 139 [.t 12]) (.alt (o1 14 (.bd [.n .i64 0,.n .i64 0] [(0,1,(.t 7)),(1,1,(.t 13))])) (.alt (o3 (.st 2 (.t 2) (.t 14))) .fin .none) .none) .none) .none) (.alt ⟨some 12,none,.mo (.mx (.t 9) (.t 11))⟩ (.alt ⟨some 7,none,.mo (.mx (.t 4) (.t 6))⟩ (.alt (o2 13 139 [.t 12]) (.alt (o1 14 (.bd [.n .i64 0,.n .i64 0] [(0,1,(.t 7)),(1,1,(.t 13))])) (.alt (o3 (.st 2 (.t 2) (.t 14))) .fin .none) .none) .none) (.alt (o2 13 139 [.t 12]) (.alt ⟨some 7,none,.mo (.mx (.t 4) (.t 6))⟩ (.alt (o1 14 (.bd [.n .i64 0,.n .i64 0] [(0,1,(.t 7)),(1,1,(.t 13))])) (.alt (o3 (.st 2 (.t 2) (.t 14))) .fin .none) .none) .none) .none)) .none))
abbrev pt:AF:=⟨15,(.seq (.reg wB) (.seq (.frk wD wA) .ret)),[.ld 2 true (.t 2)]⟩
theorem wC:ab Tryz.prog (aa Tryz.prog 130) 130=some pt:=by kernel_rfl
/-! interval.operands.xor-/
abbrev wy:List AO:=
 [o1 1 (.bx 202 0 (.t 0)),o1 2 (.al 123 [.n .i64 0,.n .i64 0])]
abbrev wx:List AO:=
 [o1 3 (.fa 1 (.t 1)),o1 4 (.ld 1 false (.t 3)),o1 5 (.fa 3 (.t 1)),o1 6 (.ld 1 false (.t 5)),⟨some 7,none,.mo (.mx (.t 4) (.t 6))⟩,
  (o2 8 139 [.t 7]),o1 9 (.bd [.n .i64 0,.n .i64 0] [(1,1,(.t 8))]),
  (o3 (.st 2 (.t 2) (.t 9)))]
abbrev pr:AF:=⟨10,(.seq (.reg wy) (.seq (.reg wx) .ret)),[.ld 2 true (.t 2)]⟩
theorem wz:ab Tryz.prog (aa Tryz.prog 131) 131=some pr:=by kernel_rfl
/-! interval.operands.shl-/
abbrev wt:List AO:=
 [o1 1 (.bx 202 0 (.t 0)),o1 2 (.al 123 [.n .i64 0,.n .i64 0])]
abbrev ws:List AO:=
 [o1 4 (.fa 2 (.t 1)),o1 5 (.ld 1 false (.t 4)),o1 6 (.bin .rem (.t 5) (ci 32)),
  (mt 3 6)]
abbrev ww:List (Nat×AO):=
 [(2,(o1 7 (.fa 2 (.t 1)))),(2,(o1 9 (.fa 3 (.t 1)))),(1,(o1 8 (.ld 1 false (.t 7)))),(1,(o1 10 (.ld 1 false (.t 9)))),(2,(o1 11 (.bin .neq (.t 8) (.t 10)))),
  (2,(mt 12 11)),
  (2,(o4 13 12 (.fa 1 (.t 1)))),
  (2,(o4 15 12 (.mv (.t 3)))),
  (2,(o4 16 12 (.bin .shr (ci 4294967295) (.t 15)))),
  (1,(o4 14 12 (.ld 1 false (.t 13)))),
  (2,(o4 17 12 (.bin .gtr (.t 14) (.t 16)))),(2,(o1 18 (.pick (.t 12) (.c (.b true)) (.t 17))))]
abbrev wr:List AO:=
 [(o2 19 73 []),
  (o3 (.st 2 (.t 2) (.t 19)))]
abbrev wv:List (Nat×AO):=
 [(2,(o1 20 (.fa 0 (.t 1)))),
  (2,(mt 22 3)),(2,(o1 24 (.fa 1 (.t 1)))),
  (2,(mt 26 3)),(1,(o1 21 (.ld 1 false (.t 20)))),(2,(o1 23 (.bin .shl (.t 21) (.t 22)))),(1,(o1 25 (.ld 1 false (.t 24)))),(2,(o1 27 (.bin .shl (.t 25) (.t 26)))),(2,(o1 28 (.bd [.n .i64 0,.n .i64 0] [(0,1,(.t 23)),(1,1,(.t 27))]))),
  (3,(o3 (.st 2 (.t 2) (.t 28))))]
abbrev pq:AF:=⟨29,(.seq (.reg wt) (.seq (.reg ws) (.seq (.seq (.mix ww) (.cond (.t 18) (.seq (.reg wr) .ret) .skip)) (.seq (.mix wv) .ret)))),[.ld 2 true (.t 2)]⟩
theorem wu:ab Tryz.prog (aa Tryz.prog 132) 132=some pq:=by kernel_rfl
/-! interval.operands.shr-/
abbrev wj:List AO:=
 [o1 1 (.bx 202 0 (.t 0)),o1 2 (.al 123 [.n .i64 0,.n .i64 0])]
abbrev wi:List AO:=
 [o1 4 (.fa 3 (.t 1)),o1 5 (.ld 1 false (.t 4)),o1 6 (.bin .leq (.t 5) (ci 31)),
  (mt 3 6)]
abbrev wo:List (Nat×AO):=
 [(2,(o1 7 (.fa 0 (.t 1)))),(2,(o1 9 (.fa 3 (.t 1)))),(2,(o1 12 (.fa 1 (.t 1)))),(2,(o1 14 (.fa 2 (.t 1)))),(1,(o1 8 (.ld 1 false (.t 7)))),(1,(o1 10 (.ld 1 false (.t 9)))),(2,(o1 11 (.bin .shr (.t 8) (.t 10)))),(1,(o1 13 (.ld 1 false (.t 12)))),(1,(o1 15 (.ld 1 false (.t 14)))),(2,(o1 16 (.bin .shr (.t 13) (.t 15)))),(2,(o1 17 (.bd [.n .i64 0,.n .i64 0] [(0,1,(.t 11)),(1,1,(.t 16))]))),
  (3,(o3 (.st 2 (.t 2) (.t 17))))]
abbrev wh:List AO:=
 [o1 19 (.fa 2 (.t 1)),o1 20 (.ld 1 false (.t 19)),o1 21 (.fa 3 (.t 1)),o1 22 (.ld 1 false (.t 21)),o1 23 (.bin .eql (.t 20) (.t 22)),
  (mt 18 23)]
abbrev wm:List (Nat×AO):=
 [(2,(o1 24 (.fa 0 (.t 1)))),(2,(o1 26 (.fa 2 (.t 1)))),(2,(o1 30 (.fa 1 (.t 1)))),(2,(o1 32 (.fa 2 (.t 1)))),(1,(o1 25 (.ld 1 false (.t 24)))),(1,(o1 27 (.ld 1 false (.t 26)))),(2,(o1 28 (.bin .rem (.t 27) (ci 32)))),(2,(o1 29 (.bin .shr (.t 25) (.t 28)))),(1,(o1 31 (.ld 1 false (.t 30)))),(1,(o1 33 (.ld 1 false (.t 32)))),(2,(o1 34 (.bin .rem (.t 33) (ci 32)))),(2,(o1 35 (.bin .shr (.t 31) (.t 34)))),(2,(o1 36 (.bd [.n .i64 0,.n .i64 0] [(0,1,(.t 29)),(1,1,(.t 35))]))),
  (3,(o3 (.st 2 (.t 2) (.t 36))))]
abbrev wq:AC:=
 (.seq (.reg wi) (.cond (.t 3) (.seq (.mix wo) .ret) (.seq (.reg wh) (.cond (.t 18) (.seq (.mix wm) .ret) .skip))))
abbrev wg:List AO:=
 [o1 37 (.fa 1 (.t 1)),o1 38 (.ld 1 false (.t 37)),o1 39 (.bd [.n .i64 0,.n .i64 0] [(1,1,(.t 38))]),
  (o3 (.st 2 (.t 2) (.t 39)))]
abbrev po:AF:=⟨40,(.seq (.reg wj) (.seq (.block 0 wq) (.seq (.reg wg) .ret))),[.ld 2 true (.t 2)]⟩
theorem wl:ab Tryz.prog (aa Tryz.prog 133) 133=some po:=by kernel_rfl
/-! interval.operands.least-/
abbrev we:List AO:=
 [o1 1 (.bx 202 0 (.t 0)),o1 2 (.al 123 [.n .i64 0,.n .i64 0])]
abbrev wd:List AO:=
 [o1 3 (.fa 0 (.t 1)),o1 4 (.ld 1 false (.t 3)),o1 5 (.fa 2 (.t 1)),o1 6 (.ld 1 false (.t 5)),⟨some 7,none,.mo (.mi (.t 4) (.t 6))⟩,o1 8 (.fa 1 (.t 1)),o1 9 (.ld 1 false (.t 8)),o1 10 (.fa 3 (.t 1)),o1 11 (.ld 1 false (.t 10)),⟨some 12,none,.mo (.mi (.t 9) (.t 11))⟩,o1 13 (.bd [.n .i64 0,.n .i64 0] [(0,1,(.t 7)),(1,1,(.t 12))]),
  (o3 (.st 2 (.t 2) (.t 13)))]
abbrev pn:AF:=⟨14,(.seq (.reg we) (.seq (.reg wd) .ret)),[.ld 2 true (.t 2)]⟩
theorem wf:ab Tryz.prog (aa Tryz.prog 134) 134=some pn:=by kernel_rfl
/-! interval.operands.greatest-/
abbrev wb:List AO:=
 [o1 1 (.bx 202 0 (.t 0)),o1 2 (.al 123 [.n .i64 0,.n .i64 0])]
abbrev wa:List AO:=
 [o1 3 (.fa 0 (.t 1)),o1 4 (.ld 1 false (.t 3)),o1 5 (.fa 2 (.t 1)),o1 6 (.ld 1 false (.t 5)),⟨some 7,none,.mo (.mx (.t 4) (.t 6))⟩,o1 8 (.fa 1 (.t 1)),o1 9 (.ld 1 false (.t 8)),o1 10 (.fa 3 (.t 1)),o1 11 (.ld 1 false (.t 10)),⟨some 12,none,.mo (.mx (.t 9) (.t 11))⟩,o1 13 (.bd [.n .i64 0,.n .i64 0] [(0,1,(.t 7)),(1,1,(.t 12))]),
  (o3 (.st 2 (.t 2) (.t 13)))]
abbrev pm:AF:=⟨14,(.seq (.reg wb) (.seq (.reg wa) .ret)),[.ld 2 true (.t 2)]⟩
theorem wc:ab Tryz.prog (aa Tryz.prog 135) 135=some pm:=by kernel_rfl
/-! interval.operands.hash-/
abbrev v8:List AO:=
 [o1 1 (.bx 202 0 (.t 0)),o1 2 (.al 123 [.n .i64 0,.n .i64 0])]
abbrev v7:List AO:=
 [(o2 3 73 []),
  (o3 (.st 2 (.t 2) (.t 3)))]
abbrev pk:AF:=⟨4,(.seq (.reg v8) (.seq (.reg v7) .ret)),[.ld 2 true (.t 2)]⟩
theorem v9:ab Tryz.prog (aa Tryz.prog 136) 136=some pk:=by kernel_rfl
/-! interval.shifted-/
abbrev v4:List AO:=
 [o1 4 (.al 123 [.n .i64 0,.n .i64 0])]
abbrev v3:List AO:=
 [(mt 6 0),o1 7 (.bin .geq (.t 6) (ci 0)),
  (mt 8 7),
  (o5 9 8 (.mv (.t 1))),
  (o5 10 8 (.bin .leq (.t 9) (ci 4294967295))),o1 11 (.pick (.t 8) (.t 10) (.c (.b false))),
  (mt 5 11)]
abbrev vZ:List AO:=
 [(mt 12 0),
  (mt 13 1),o1 14 (.bd [.n .i64 0,.n .i64 0] [(0,1,(.t 12)),(1,1,(.t 13))]),
  (o3 (.st 2 (.t 4) (.t 14)))]
abbrev vY:List AO:=
 [(mt 16 0),o1 17 (.bin .gtr (.t 16) (ci 4294967295)),
  (mt 15 17)]
abbrev vX:List AO:=
 [(mt 18 0),o1 19 (.bin .sub (.t 18) (ci 4294967295)),o1 20 (.bin .sub (.t 19) (ci 1)),
  (mt 21 1),o1 22 (.bin .sub (.t 21) (ci 4294967295)),o1 23 (.bin .sub (.t 22) (ci 1)),o1 24 (.bd [.n .i64 0,.n .i64 0] [(0,1,(.t 20)),(1,1,(.t 23))]),
  (o3 (.st 2 (.t 4) (.t 24)))]
abbrev vW:List AO:=
 [(mt 26 1),o1 27 (.bin .lss (.t 26) (ci 0)),
  (mt 25 27)]
abbrev vV:List AO:=
 [(mt 28 0),o1 29 (.bin .add (.t 28) (ci 4294967295)),o1 30 (.bin .add (.t 29) (ci 1)),
  (mt 31 1),o1 32 (.bin .add (.t 31) (ci 4294967295)),o1 33 (.bin .add (.t 32) (ci 1)),o1 34 (.bd [.n .i64 0,.n .i64 0] [(0,1,(.t 30)),(1,1,(.t 33))]),
  (o3 (.st 2 (.t 4) (.t 34)))]
abbrev v6:AC:=
 (.seq (.reg v3) (.cond (.t 5) (.seq (.reg vZ) .ret) (.seq (.reg vY) (.cond (.t 15) (.seq (.reg vX) .ret) (.seq (.reg vW) (.cond (.t 25) (.seq (.reg vV) .ret) .skip))))))
abbrev vU:List AO:=
 [(o2 35 73 []),
  (o3 (.st 2 (.t 4) (.t 35)))]
abbrev pj:AF:=⟨36,(.seq (.reg v4) (.seq (.block 0 v6) (.seq (.reg vU) .ret))),[.ld 2 true (.t 4)]⟩
theorem v5:ab Tryz.prog (aa Tryz.prog 138) 138=some pj:=by kernel_rfl
/-! interval.ones-/
abbrev vS:List AO:=
 [o1 2 (.mv (ci 0))]
abbrev vR:List AO:=
 [(mt 3 0),o1 4 (.cvi .u64 (.t 3)),
  (o2 5 114 [.t 4]),o1 6 (.bin .shl (ci 1) (.t 5)),o1 7 (.bin .sub (.t 6) (ci 1)),
  (mt 2 7)]
abbrev ph:AF:=⟨8,(.seq (.reg vS) (.seq (.reg vR) .ret)),[.mv (.t 2)]⟩
theorem vT:ab Tryz.prog (aa Tryz.prog 139) 139=some ph:=by kernel_rfl
/-! instruction.combinations$1-/
abbrev vP:List AO:=
 [o1 4 (.mv (.c (.n .u32 0)))]
abbrev vO:List AO:=
 [(mt 5 0),
  (mt 6 1),o1 7 (.bin .add (.t 5) (.t 6)),
  (mt 4 7)]
abbrev pg:AF:=⟨8,(.seq (.reg vP) (.seq (.reg vO) .ret)),[.mv (.t 4)]⟩
theorem vQ:ab Tryz.prog (aa Tryz.prog 140) 140=some pg:=by kernel_rfl
/-! instruction.combinations$2-/
abbrev vM:List AO:=
 [o1 4 (.mv (.c (.n .u32 0)))]
abbrev vL:List AO:=
 [(mt 5 0),
  (mt 6 1),o1 7 (.bin .sub (.t 5) (.t 6)),
  (mt 4 7)]
abbrev pe:AF:=⟨8,(.seq (.reg vM) (.seq (.reg vL) .ret)),[.mv (.t 4)]⟩
theorem vN:ab Tryz.prog (aa Tryz.prog 141) 141=some pe:=by kernel_rfl
/-! instruction.combinations$3-/
abbrev vJ:List AO:=
 [o1 4 (.mv (.c (.n .u32 0)))]
abbrev vI:List AO:=
 [(mt 5 0),
  (mt 6 1),o1 7 (.bin .mul (.t 5) (.t 6)),
  (mt 4 7)]
abbrev pd:AF:=⟨8,(.seq (.reg vJ) (.seq (.reg vI) .ret)),[.mv (.t 4)]⟩
theorem vK:ab Tryz.prog (aa Tryz.prog 142) 142=some pd:=by kernel_rfl
/-! instruction.combinations$4-/
abbrev vG:List AO:=
 [o1 4 (.mv (.c (.n .u32 0)))]
abbrev vF:List AO:=
 [(mt 5 0),
  (mt 6 1),o1 7 (.bin .quo (.t 5) (.t 6)),
  (mt 4 7)]
abbrev pc:AF:=⟨8,(.seq (.reg vG) (.seq (.reg vF) .ret)),[.mv (.t 4)]⟩
theorem vH:ab Tryz.prog (aa Tryz.prog 143) 143=some pc:=by kernel_rfl
/-! instruction.combinations$5-/
abbrev vA:List AO:=
 [o1 4 (.mv (.c (.n .u32 0)))]
abbrev vz:List AO:=
 [(mt 5 0),
  (mt 6 1),o1 7 (.bin .rem (.t 5) (.t 6)),
  (mt 4 7)]
abbrev pb:AF:=⟨8,(.seq (.reg vA) (.seq (.reg vz) .ret)),[.mv (.t 4)]⟩
theorem vB:ab Tryz.prog (aa Tryz.prog 144) 144=some pb:=by kernel_rfl
/-! instruction.combinations$6-/
abbrev vx:List AO:=
 [o1 4 (.mv (.c (.n .u32 0)))]
abbrev vw:List AO:=
 [(mt 5 0),
  (mt 6 1),o1 7 (.bin .and (.t 5) (.t 6)),
  (mt 4 7)]
abbrev o9:AF:=⟨8,(.seq (.reg vx) (.seq (.reg vw) .ret)),[.mv (.t 4)]⟩
theorem vy:ab Tryz.prog (aa Tryz.prog 145) 145=some o9:=by kernel_rfl
/-! instruction.combinations$7-/
abbrev vt:List AO:=
 [o1 4 (.mv (.c (.n .u32 0)))]
abbrev vr:List AO:=
 [(mt 5 0),
  (mt 6 1),o1 7 (.bin .or (.t 5) (.t 6)),
  (mt 4 7)]
abbrev o8:AF:=⟨8,(.seq (.reg vt) (.seq (.reg vr) .ret)),[.mv (.t 4)]⟩
theorem vu:ab Tryz.prog (aa Tryz.prog 146) 146=some o8:=by kernel_rfl
/-! instruction.combinations$8-/
abbrev vp:List AO:=
 [o1 4 (.mv (.c (.n .u32 0)))]
abbrev vo:List AO:=
 [(mt 5 0),
  (mt 6 1),o1 7 (.bin .xor (.t 5) (.t 6)),
  (mt 4 7)]
abbrev o7:AF:=⟨8,(.seq (.reg vp) (.seq (.reg vo) .ret)),[.mv (.t 4)]⟩
theorem vq:ab Tryz.prog (aa Tryz.prog 147) 147=some o7:=by kernel_rfl
/-! instruction.combinations$9-/
abbrev vm:List AO:=
 [o1 4 (.mv (.c (.n .u32 0)))]
abbrev vl:List AO:=
 [(mt 5 0),
  (mt 6 1),o1 7 (.bin .rem (.t 6) (.c (.n .u32 32))),o1 8 (.bin .shl (.t 5) (.t 7)),
  (mt 4 8)]
abbrev o6:AF:=⟨9,(.seq (.reg vm) (.seq (.reg vl) .ret)),[.mv (.t 4)]⟩
theorem vn:ab Tryz.prog (aa Tryz.prog 148) 148=some o6:=by kernel_rfl
/-! instruction.combinations$10-/
abbrev vj:List AO:=
 [o1 4 (.mv (.c (.n .u32 0)))]
abbrev vi:List AO:=
 [(mt 5 0),
  (mt 6 1),o1 7 (.bin .rem (.t 6) (.c (.n .u32 32))),o1 8 (.bin .shr (.t 5) (.t 7)),
  (mt 4 8)]
abbrev oZ:AF:=⟨9,(.seq (.reg vj) (.seq (.reg vi) .ret)),[.mv (.t 4)]⟩
theorem vk:ab Tryz.prog (aa Tryz.prog 149) 149=some oZ:=by kernel_rfl
/-! instruction.combinations$11-/
abbrev vg:List AO:=
 [o1 4 (.mv (.c (.n .u32 0)))]
abbrev vf:List AO:=
 [(mt 5 0),
  (mt 6 1),⟨some 7,none,.mo (.mi (.t 5) (.t 6))⟩,
  (mt 4 7)]
abbrev oY:AF:=⟨8,(.seq (.reg vg) (.seq (.reg vf) .ret)),[.mv (.t 4)]⟩
theorem vh:ab Tryz.prog (aa Tryz.prog 150) 150=some oY:=by kernel_rfl
/-! instruction.combinations$12-/
abbrev vd:List AO:=
 [o1 4 (.mv (.c (.n .u32 0)))]
abbrev vc:List AO:=
 [(mt 5 0),
  (mt 6 1),⟨some 7,none,.mo (.mx (.t 5) (.t 6))⟩,
  (mt 4 7)]
abbrev oX:AF:=⟨8,(.seq (.reg vd) (.seq (.reg vc) .ret)),[.mv (.t 4)]⟩
theorem ve:ab Tryz.prog (aa Tryz.prog 151) 151=some oX:=by kernel_rfl
/-! instruction.hash-/
abbrev u7:List AO:=
 [o1 4 (.mv (.c (.n .u32 0)))]
abbrev u6:List AO:=
 [(mt 6 0),
  (mt 7 1),o1 8 (.bin .mul (.t 7) (.c (.n .u32 2654435761))),o1 9 (.bin .xor (.t 6) (.t 8)),o1 10 (.bin .mul (.t 9) (.c (.n .u32 2246822519))),
  (mt 5 10)]
abbrev u5:List AO:=
 [(mt 11 5),
  (mt 12 5),o1 13 (.bin .shr (.t 12) (.c (.n .u64 16))),o1 14 (.bin .xor (.t 11) (.t 13)),
  (mt 4 14)]
abbrev oW:AF:=⟨15,(.seq (.reg u7) (.seq (.reg u6) (.seq (.reg u5) .ret))),[.mv (.t 4)]⟩
theorem u9:ab Tryz.prog (aa Tryz.prog 152) 152=some oW:=by kernel_rfl
/-! instruction.combinations$13-/
abbrev u3:List AO:=
 [o1 4 (.mv (.c (.n .u32 0)))]
abbrev uZ:List AO:=
 [(mt 5 0),
  (mt 6 1),o1 7 (.bin .eql (.t 5) (.t 6)),
  (o2 8 49 [.t 7]),
  (mt 4 8)]
abbrev oV:AF:=⟨9,(.seq (.reg u3) (.seq (.reg uZ) .ret)),[.mv (.t 4)]⟩
theorem u4:ab Tryz.prog (aa Tryz.prog 153) 153=some oV:=by kernel_rfl
/-! instruction.combinations$14-/
abbrev uX:List AO:=
 [o1 4 (.mv (.c (.n .u32 0)))]
abbrev uW:List AO:=
 [(mt 5 0),
  (mt 6 1),o1 7 (.bin .lss (.t 5) (.t 6)),
  (o2 8 49 [.t 7]),
  (mt 4 8)]
abbrev oU:AF:=⟨9,(.seq (.reg uX) (.seq (.reg uW) .ret)),[.mv (.t 4)]⟩
theorem uY:ab Tryz.prog (aa Tryz.prog 154) 154=some oU:=by kernel_rfl
/-! instruction.combinations$15-/
abbrev uU:List AO:=
 [o1 4 (.mv (.c (.n .u32 0)))]
abbrev uT:List AO:=
 [(mt 5 0),o1 6 (.bin .eql (.t 5) (.c (.n .u32 0))),
  (o2 7 49 [.t 6]),
  (mt 4 7)]
abbrev oT:AF:=⟨8,(.seq (.reg uU) (.seq (.reg uT) .ret)),[.mv (.t 4)]⟩
theorem uV:ab Tryz.prog (aa Tryz.prog 155) 155=some oT:=by kernel_rfl
/-! instruction.combinations$16-/
abbrev uR:List AO:=
 [o1 4 (.mv (.c (.n .u32 0)))]
abbrev uQ:List AO:=
 [(mt 5 0),o1 6 (.bin .neq (.t 5) (.c (.n .u32 0))),
  (mt 7 6),
  (o5 8 7 (.mv (.t 1))),
  (o5 9 7 (.bin .neq (.t 8) (.c (.n .u32 0)))),o1 10 (.pick (.t 7) (.t 9) (.c (.b false))),
  (o2 11 49 [.t 10]),
  (mt 4 11)]
abbrev oS:AF:=⟨12,(.seq (.reg uR) (.seq (.reg uQ) .ret)),[.mv (.t 4)]⟩
theorem uS:ab Tryz.prog (aa Tryz.prog 156) 156=some oS:=by kernel_rfl
/-! instruction.combinations$17-/
abbrev uO:List AO:=
 [o1 4 (.mv (.c (.n .u32 0)))]
abbrev uN:List AO:=
 [(mt 5 0),o1 6 (.bin .neq (.t 5) (.c (.n .u32 0))),
  (mt 7 6),
  (o4 8 7 (.mv (.t 1))),
  (o4 9 7 (.bin .neq (.t 8) (.c (.n .u32 0)))),o1 10 (.pick (.t 7) (.c (.b true)) (.t 9)),
  (o2 11 49 [.t 10]),
  (mt 4 11)]
abbrev oQ:AF:=⟨12,(.seq (.reg uO) (.seq (.reg uN) .ret)),[.mv (.t 4)]⟩
theorem uP:ab Tryz.prog (aa Tryz.prog 157) 157=some oQ:=by kernel_rfl
/-! instruction.combinations$18-/
abbrev uL:List AO:=
 [o1 4 (.mv (.c (.n .u32 0)))]
abbrev uK:List AO:=
 [(mt 5 0),o1 6 (.bin .neq (.t 5) (.c (.n .u32 0))),
  (o2 7 49 [.t 6]),
  (mt 4 7)]
abbrev oP:AF:=⟨8,(.seq (.reg uL) (.seq (.reg uK) .ret)),[.mv (.t 4)]⟩
theorem uM:ab Tryz.prog (aa Tryz.prog 158) 158=some oP:=by kernel_rfl
end Go.Proofs.YthehakngpbjgjaaGreat