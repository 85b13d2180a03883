/- A part of the proof of CostBounds: AcCsF. No condition. -/
import Derived.Test.YthehakngpbjgjaaGreatGd14
import Derived.Test.YthehakngpbjgjaaGreatProg
set_option linter.unusedSimpArgs false
set_option linter.unusedVariables false
set_option linter.constructorNameAsVariable false
set_option maxRecDepth 100000
set_option maxHeartbeats 4000000
namespace Go.Proofs.YthehakngpbjgjaaGreat
open Go.RowKit
/-! compactorlaw21.CostMemory-/
abbrev M4:List AO:=
 [o1 1 (.bx 25 0 (.t 0)),o1 2 (.mv (.c (.b false)))]
abbrev M3:List AO:=
 [o1 7 (.ld 3 true (.t 1)),
  (o2 8 7 [.t 7]),o1 9 (.un .not (.t 8))]
abbrev M1:List AO:=
 [(o2 10 8 []),
  (mt 2 10)]
abbrev M0:List AO:=
 [o1 12 (.ld 3 true (.t 1)),
  (o2 13 9 [.t 12]),
  (mt 11 13),o1 14 (.ext 0 (.t 11)),o1 15 (.ext 1 (.t 11)),
  (mt 3 14),
  (mt 4 15)]
abbrev MZ:List AO:=
 [o1 17 (.ld 3 true (.t 1)),
  (o2 18 10 [.t 17]),
  (mt 16 18),o1 19 (.ext 0 (.t 16)),o1 20 (.ext 1 (.t 16)),
  (mt 5 19),
  (mt 6 20)]
abbrev MY:List AO:=
 [(mt 21 3),
  (mt 22 5),o1 23 (.bin .eql (.t 21) (.t 22)),
  (mt 24 23),
  (o5 25 24 (.mv (.t 4))),
  (o5 26 24 (.mv (.t 6))),
  (o5 27 24 (.bin .eql (.t 25) (.t 26))),o1 28 (.pick (.t 24) (.t 27) (.c (.b false))),
  (mt 29 28),⟨some 30,some (29,true),.cl (.c (.f 8 [] [])) []⟩,o1 31 (.pick (.t 29) (.t 30) (.c (.b false))),
  (mt 2 31)]
abbrev M6:AF:=⟨32,(.seq (.reg M4) (.seq (.seq (.reg M3) (.cond (.t 9) (.seq (.reg M1) .ret) .skip)) (.seq (.reg M0) (.seq (.reg MZ) (.seq (.reg MY) .ret))))),[.mv (.t 2)]⟩
theorem M5:av Tryz.prog (aa Tryz.prog 3) 3=some M6:=by kernel_rfl
/-! compactorlaw21.CostCompares-/
abbrev MU:List AO:=
 [o1 2 (.bx 34 0 (.t 0)),o1 3 (.bx 34 0 (.t 1)),o1 4 (.mv (.c (.b false)))]
abbrev MW:List (Nat×AO):=
 [(1,(o1 5 (.ld 2 true (.t 2)))),(1,(o1 6 (.ld 2 true (.t 3)))),(1,(o1 8 (.ld 2 true (.t 2)))),(1,(o1 9 (.ld 2 true (.t 3)))),
  (0,(o2 7 11 [.t 5,.t 6])),
  (0,(o2 10 12 [.t 8,.t 9])),(2,(o1 11 (.eq false (.st [(0,1,.n),(1,1,.n)]) (.t 7) (.t 10)))),
  (2,(mt 12 11)),
  (1,(o5 13 12 (.ld 2 true (.t 2)))),
  (1,(o5 14 12 (.ld 2 true (.t 3)))),
  (1,(o5 16 12 (.ld 2 true (.t 2)))),
  (1,(o5 17 12 (.ld 2 true (.t 3)))),(0,⟨some 15,some (12,true),.cl (.c (.f 13 [] [])) [.t 13,.t 14]⟩),(3,⟨some 18,some (12,true),.cl (.c (.f 14 [] [])) [.t 16,.t 17]⟩),
  (2,(o5 19 12 (.eq false .b (.t 15) (.t 18)))),(2,(o1 20 (.pick (.t 12) (.t 19) (.c (.b false))))),
  (2,(mt 21 20)),(3,⟨some 22,some (21,true),.cl (.c (.f 8 [] [])) []⟩),(2,(o1 23 (.pick (.t 21) (.t 22) (.c (.b false))))),
  (2,(mt 4 23))]
abbrev MX:AF:=⟨24,(.seq (.reg MU) (.seq (.mix MW) .ret)),[.mv (.t 4)]⟩
theorem MV:av Tryz.prog (aa Tryz.prog 4) 4=some MX:=by kernel_rfl
/-! compactorlaw21.CostOrders-/
abbrev MM:List AO:=
 [o1 1 (.bx 39 0 (.t 0)),o1 2 (.mv (.c (.b false)))]
abbrev ML:List AO:=
 [o1 3 (.al 40 [.n .i64 0,.n .i64 0,.n .i64 0,.n .i64 0,.n .i64 0,.n .i64 0])]
abbrev MJ:List AO:=
 [o1 6 (.mv (ci 0))]
abbrev MI:List AO:=
 [o1 7 (.bin .lss (.t 6) (ci 3))]
abbrev MH:List AO:=
 [(mt 8 6),
  (mt 4 8)]
abbrev MP:List (Nat×AO):=
 [(2,(mt 9 4)),
  (2,(mt 10 4)),(2,(o1 11 (.iaa 3 2 (.t 1) (.t 10)))),(2,(o1 12 (.iaa 2 1 (.t 11) (ci 0)))),
  (2,(mt 15 4)),(2,(o1 16 (.iaa 3 2 (.t 1) (.t 15)))),(2,(o1 17 (.iaa 2 1 (.t 16) (ci 1)))),(1,(o1 13 (.ld 1 false (.t 12)))),(2,(o1 14 (.cvi .i64 (.t 13)))),(1,(o1 18 (.ld 1 false (.t 17)))),(2,(o1 19 (.cvi .i64 (.t 18)))),(2,(o1 20 (.bd [.n .i64 0,.n .i64 0] [(0,1,(.t 14)),(1,1,(.t 19))]))),(2,(o1 21 (.iaa 3 2 (.t 3) (.t 9)))),
  (3,(o3 (.st 2 (.t 21) (.t 20))))]
abbrev MR:AC:=
 (.seq (.reg MH) (.mix MP))
abbrev MG:List AO:=
 [o1 22 (.bin .add (.t 6) (ci 1)),
  (mt 6 22)]
abbrev MS:AC:=
 (.seq (.reg MI) (.seq (.cond (.t 7) .skip (.exit 0)) (.seq (.block 1 MR) (.reg MG))))
abbrev MQ:AC:=
 (.loop MS)
abbrev A0:List AO:=
 [o1 23 (.iaa 3 2 (.t 3) (ci 0)),o1 24 (.ld 2 true (.t 23)),o1 25 (.iaa 3 2 (.t 3) (ci 1)),o1 26 (.ld 2 true (.t 25)),
  (o2 27 11 [.t 24,.t 26]),o1 5 (.al 34 [.n .i64 0,.n .i64 0]),
  (o3 (.st 2 (.t 5) (.t 27)))]
abbrev AZ:List AO:=
 [o1 28 (.ld 2 true (.t 5)),o1 29 (.iaa 3 2 (.t 3) (ci 2)),o1 30 (.ld 2 true (.t 29)),
  (o2 31 13 [.t 28,.t 30]),
  (mt 32 31),
  (o5 33 32 (.iaa 3 2 (.t 3) (ci 0))),
  (o5 34 32 (.ld 2 true (.t 33))),
  (o5 35 32 (.iaa 3 2 (.t 3) (ci 2))),
  (o5 36 32 (.ld 2 true (.t 35))),⟨some 37,some (32,true),.cl (.c (.f 13 [] [])) [.t 34,.t 36]⟩,
  (o5 38 32 (.un .not (.t 37))),
  (o5 39 32 (.mv (.t 38))),
  (o4 40 39 (.iaa 3 2 (.t 3) (ci 1))),
  (o4 41 39 (.ld 2 true (.t 40))),
  (o4 42 39 (.iaa 3 2 (.t 3) (ci 2))),
  (o4 43 39 (.ld 2 true (.t 42))),⟨some 44,some (39,false),.cl (.c (.f 13 [] [])) [.t 41,.t 43]⟩,
  (o4 45 39 (.un .not (.t 44))),
  (o5 46 32 (.pick (.t 39) (.c (.b true)) (.t 45))),o1 47 (.pick (.t 32) (.t 46) (.c (.b false))),
  (mt 48 47),
  (o4 49 48 (.iaa 3 2 (.t 3) (ci 0))),
  (o4 50 48 (.ld 2 true (.t 49))),
  (o4 51 48 (.ld 2 true (.t 5))),⟨some 52,some (48,false),.cl (.c (.f 13 [] [])) [.t 50,.t 51]⟩,
  (o4 53 48 (.un .not (.t 52))),o1 54 (.pick (.t 48) (.c (.b true)) (.t 53)),
  (mt 55 54),
  (o4 56 55 (.iaa 3 2 (.t 3) (ci 1))),
  (o4 57 55 (.ld 2 true (.t 56))),
  (o4 58 55 (.ld 2 true (.t 5))),⟨some 59,some (55,false),.cl (.c (.f 13 [] [])) [.t 57,.t 58]⟩,
  (o4 60 55 (.un .not (.t 59))),o1 61 (.pick (.t 55) (.c (.b true)) (.t 60))]
abbrev AY:List AO:=
 [o1 2 (.mv (.c (.b false)))]
abbrev AW:List AO:=
 [o1 62 (.iaa 3 2 (.t 3) (ci 0)),o1 63 (.ld 2 true (.t 62)),o1 64 (.iaa 3 2 (.t 3) (ci 1)),o1 65 (.ld 2 true (.t 64)),
  (o2 66 13 [.t 63,.t 65]),
  (mt 67 66),
  (o5 68 67 (.iaa 3 2 (.t 3) (ci 1))),
  (o5 69 67 (.ld 2 true (.t 68))),
  (o5 70 67 (.iaa 3 2 (.t 3) (ci 2))),
  (o5 71 67 (.ld 2 true (.t 70))),⟨some 72,some (67,true),.cl (.c (.f 13 [] [])) [.t 69,.t 71]⟩,o1 73 (.pick (.t 67) (.t 72) (.c (.b false))),
  (mt 74 73),
  (o5 75 74 (.iaa 3 2 (.t 3) (ci 0))),
  (o5 76 74 (.ld 2 true (.t 75))),
  (o5 77 74 (.iaa 3 2 (.t 3) (ci 2))),
  (o5 78 74 (.ld 2 true (.t 77))),⟨some 79,some (74,true),.cl (.c (.f 13 [] [])) [.t 76,.t 78]⟩,
  (o5 80 74 (.un .not (.t 79))),o1 81 (.pick (.t 74) (.t 80) (.c (.b false)))]
abbrev AU:List AO:=
 [o1 2 (.mv (.c (.b false)))]
abbrev A1:List (Nat×AO):=
 [(2,(o1 82 (.iaa 3 2 (.t 3) (ci 1)))),(2,(o1 84 (.iaa 3 2 (.t 3) (ci 0)))),(1,(o1 83 (.ld 2 true (.t 82)))),(1,(o1 85 (.ld 2 true (.t 84)))),(1,(o1 87 (.ld 2 true (.t 5)))),
  (0,(o2 86 11 [.t 83,.t 85])),(2,(o1 88 (.eq false (.st [(0,1,.n),(1,1,.n)]) (.t 86) (.t 87)))),
  (2,(mt 89 88)),
  (2,(o5 90 89 (.iaa 3 2 (.t 3) (ci 0)))),
  (2,(o5 92 89 (.bd [.n .i64 0,.n .i64 0] []))),
  (2,(o5 94 89 (.iaa 3 2 (.t 3) (ci 0)))),
  (1,(o5 91 89 (.ld 2 true (.t 90)))),
  (1,(o5 95 89 (.ld 2 true (.t 94)))),(0,⟨some 93,some (89,true),.cl (.c (.f 11 [] [])) [.t 91,.t 92]⟩),
  (2,(o5 96 89 (.eq false (.st [(0,1,.n),(1,1,.n)]) (.t 93) (.t 95)))),(2,(o1 97 (.pick (.t 89) (.t 96) (.c (.b false))))),
  (2,(mt 98 97)),
  (2,(o5 99 98 (.iaa 3 2 (.t 3) (ci 0)))),
  (2,(o5 101 98 (.iaa 3 2 (.t 3) (ci 0)))),
  (1,(o5 100 98 (.ld 2 true (.t 99)))),
  (1,(o5 102 98 (.ld 2 true (.t 101)))),(3,⟨some 103,some (98,true),.cl (.c (.f 13 [] [])) [.t 100,.t 102]⟩),(2,(o1 104 (.pick (.t 98) (.t 103) (.c (.b false))))),
  (2,(mt 105 104)),(3,⟨some 106,some (105,true),.cl (.c (.f 8 [] [])) []⟩),(2,(o1 107 (.pick (.t 105) (.t 106) (.c (.b false))))),
  (2,(mt 2 107))]
abbrev MT:AF:=⟨108,(.seq (.reg MM) (.seq (.reg ML) (.seq (.seq (.reg MJ) (.block 0 MQ)) (.seq (.reg A0) (.seq (.seq (.reg AZ) (.cond (.t 61) (.seq (.reg AY) .ret) .skip)) (.seq (.seq (.reg AW) (.cond (.t 81) (.seq (.reg AU) .ret) .skip)) (.seq (.mix A1) .ret))))))),[.mv (.t 2)]⟩
theorem MN:av Tryz.prog (aa Tryz.prog 5) 5=some MT:=by kernel_rfl
/-! compactorlaw21.CostBounds-/
abbrev ME:List AO:=
 [o1 2 (.bx 25 0 (.t 0)),o1 3 (.bx 44 0 (.t 1)),o1 4 (.mv (.c (.b false)))]
abbrev MC:List AO:=
 [o1 13 (.ld 3 true (.t 2)),o1 14 (.ld 4 true (.t 3)),
  (o2 15 15 [.t 13,.t 14]),o1 16 (.un .not (.t 15))]
abbrev MB:List AO:=
 [(o2 17 8 []),
  (mt 4 17)]
abbrev MA:List AO:=
 [o1 19 (.ld 3 true (.t 2)),o1 20 (.ld 4 true (.t 3)),
  (o2 21 16 [.t 19,.t 20]),
  (mt 18 21),o1 22 (.ext 0 (.t 18)),o1 23 (.ext 1 (.t 18)),
  (mt 5 22),
  (mt 6 23)]
abbrev Mz:List AO:=
 [o1 25 (.ld 3 true (.t 2)),o1 26 (.ld 4 true (.t 3)),
  (o2 27 17 [.t 25,.t 26]),
  (mt 24 27),o1 28 (.ext 0 (.t 24)),o1 29 (.ext 1 (.t 24)),
  (mt 7 28),
  (mt 8 29)]
abbrev My:List AO:=
 [o1 31 (.ld 3 true (.t 2)),o1 32 (.ld 4 true (.t 3)),
  (o2 33 18 [.t 31,.t 32]),
  (mt 30 33),o1 34 (.ext 0 (.t 30)),o1 35 (.ext 1 (.t 30)),
  (mt 9 34),
  (mt 10 35)]
abbrev Mx:List AO:=
 [o1 37 (.ld 3 true (.t 2)),o1 38 (.ld 4 true (.t 3)),
  (o2 39 19 [.t 37,.t 38]),
  (mt 36 39),o1 40 (.ext 0 (.t 36)),o1 41 (.ext 1 (.t 36)),
  (mt 11 40),
  (mt 12 41)]
abbrev Mw:List AO:=
 [(mt 42 5),
  (mt 43 7),o1 44 (.bin .eql (.t 42) (.t 43)),
  (mt 45 44),
  (o5 46 45 (.mv (.t 6))),
  (o5 47 45 (.mv (.t 8))),
  (o5 48 45 (.bin .eql (.t 46) (.t 47))),o1 49 (.pick (.t 45) (.t 48) (.c (.b false))),
  (mt 50 49),
  (o5 51 50 (.mv (.t 9))),
  (o5 52 50 (.mv (.t 11))),
  (o5 53 50 (.bin .eql (.t 51) (.t 52))),o1 54 (.pick (.t 50) (.t 53) (.c (.b false))),
  (mt 55 54),
  (o5 56 55 (.mv (.t 10))),
  (o5 57 55 (.mv (.t 12))),
  (o5 58 55 (.bin .eql (.t 56) (.t 57))),o1 59 (.pick (.t 55) (.t 58) (.c (.b false))),
  (mt 60 59),⟨some 61,some (60,true),.cl (.c (.f 8 [] [])) []⟩,o1 62 (.pick (.t 60) (.t 61) (.c (.b false))),
  (mt 4 62)]
abbrev MF:AF:=⟨63,(.seq (.reg ME) (.seq (.seq (.reg MC) (.cond (.t 16) (.seq (.reg MB) .ret) .skip)) (.seq (.reg MA) (.seq (.reg Mz) (.seq (.reg My) (.seq (.reg Mx) (.seq (.reg Mw) .ret))))))),[.mv (.t 4)]⟩
theorem ye:av Tryz.prog (aa Tryz.prog 6) 6=some MF:=by kernel_rfl
/-! compactorref15.Few-/
abbrev Ms:List AO:=
 [o1 1 (.bx 25 0 (.t 0)),o1 2 (.mv (.c (.b false)))]
abbrev Mr:List AO:=
 [o1 4 (.fa 0 (.t 1)),o1 5 (.ld 1 false (.t 4)),o1 6 (.len (.t 5)),o1 7 (.bin .gtr (.t 6) (ci 20)),
  (mt 8 7),
  (o4 9 8 (.fa 2 (.t 1))),
  (o4 10 8 (.ld 1 false (.t 9))),
  (o4 11 8 (.len (.t 10))),
  (o4 12 8 (.bin .gtr (.t 11) (ci 200))),o1 13 (.pick (.t 8) (.c (.b true)) (.t 12)),
  (mt 14 13),
  (o4 15 14 (.fa 2 (.t 1))),
  (o4 16 14 (.ld 1 false (.t 15))),⟨some 17,some (14,false),.cl (.c (.f 20 [] [])) [.t 16]⟩,
  (o4 18 14 (.un .not (.t 17))),o1 19 (.pick (.t 14) (.c (.b true)) (.t 18))]
abbrev Mq:List AO:=
 [o1 2 (.mv (.c (.b false)))]
abbrev Mp:List AO:=
 [o1 3 (.mv (ci 0))]
abbrev Mo:List AO:=
 [(mt 20 3),o1 21 (.fa 0 (.t 1)),o1 22 (.ld 1 false (.t 21)),o1 23 (.len (.t 22)),o1 24 (.bin .lss (.t 20) (.t 23))]
abbrev Mn:List AO:=
 [o1 27 (.fa 0 (.t 1)),o1 28 (.ld 1 false (.t 27)),
  (mt 29 3),o1 30 (.ia 2 (.t 28) (.t 29)),o1 31 (.fa 1 (.t 30)),o1 32 (.ld 1 false (.t 31)),o1 33 (.bin .gtr (.t 32) (ci 300)),
  (mt 34 33),
  (o5 35 34 (.fa 0 (.t 1))),
  (o5 36 34 (.ld 1 false (.t 35))),
  (o5 37 34 (.mv (.t 3))),
  (o5 38 34 (.ia 2 (.t 36) (.t 37))),
  (o5 39 34 (.fa 1 (.t 38))),
  (o5 40 34 (.ld 1 false (.t 39))),
  (o5 41 34 (.bin .leq (.t 40) (ci 65536))),o1 42 (.pick (.t 34) (.t 41) (.c (.b false)))]
abbrev Mm:List AO:=
 [o1 2 (.mv (.c (.b false)))]
abbrev Mt:AC:=
 (.seq (.reg Mn) (.cond (.t 42) (.seq (.reg Mm) .ret) .skip))
abbrev Ml:List AO:=
 [(mt 25 3),o1 26 (.bin .add (.t 25) (ci 1)),
  (mt 3 26)]
abbrev Mu:AC:=
 (.seq (.seq (.reg Mo) (.cond (.t 24) .skip (.exit 0))) (.seq (.block 1 Mt) (.reg Ml)))
abbrev AR:AC:=
 (.loop Mu)
abbrev AQ:List AO:=
 [o1 2 (.mv (.c (.b true)))]
abbrev Mv:AF:=⟨43,(.seq (.reg Ms) (.seq (.seq (.reg Mr) (.cond (.t 19) (.seq (.reg Mq) .ret) .skip)) (.seq (.seq (.reg Mp) (.block 0 AR)) (.seq (.reg AQ) .ret)))),[.mv (.t 2)]⟩
theorem yd:av Tryz.prog (aa Tryz.prog 7) 7=some Mv:=by kernel_rfl
/-! compactorref21.Memory-/
abbrev Mh:List AO:=
 [o1 1 (.bx 25 0 (.t 0)),o1 2 (.mv (ci 0)),o1 3 (.mv (ci 0))]
abbrev Mg:List AO:=
 [o1 7 (.ld 3 true (.t 1)),
  (o2 8 25 [.t 7]),
  (mt 4 8)]
abbrev Mf:List AO:=
 [(mt 9 4),o1 10 (.bin .neq (.t 9) (ci 0))]
abbrev Me:List AO:=
 [(mt 11 4),o1 2 (.mv (ci 0)),
  (mt 3 11)]
abbrev Md:List AO:=
 [o1 12 (.fa 1 (.t 1)),o1 13 (.ld 1 false (.t 12)),o1 14 (.bin .mul (ci 4) (.t 13)),o1 15 (.bin .add (.t 14) (ci 128)),o1 16 (.bin .add (.t 15) (ci 64)),
  (mt 5 16)]
abbrev Mc:List AO:=
 [o1 6 (.mv (ci 0))]
abbrev Mb:List AO:=
 [(mt 17 6),o1 18 (.fa 0 (.t 1)),o1 19 (.ld 1 false (.t 18)),o1 20 (.len (.t 19)),o1 21 (.bin .lss (.t 17) (.t 20))]
abbrev Ma:List AO:=
 [o1 24 (.fa 0 (.t 1)),o1 25 (.ld 1 false (.t 24)),
  (mt 26 6),o1 27 (.ia 2 (.t 25) (.t 26)),o1 28 (.fa 0 (.t 27)),o1 29 (.ld 1 false (.t 28))]
abbrev L9:List AO:=
 [(mt 30 5),o1 31 (.fa 0 (.t 1)),o1 32 (.ld 1 false (.t 31)),
  (mt 33 6),o1 34 (.ia 2 (.t 32) (.t 33)),o1 35 (.fa 1 (.t 34)),o1 36 (.ld 1 false (.t 35)),o1 37 (.bin .mul (ci 4) (.t 36)),o1 38 (.bin .add (.t 30) (.t 37)),
  (mt 5 38)]
abbrev L8:List AO:=
 [(mt 39 5),o1 40 (.fa 0 (.t 1)),o1 41 (.ld 1 false (.t 40)),
  (mt 42 6),o1 43 (.ia 2 (.t 41) (.t 42)),o1 44 (.fa 1 (.t 43)),o1 45 (.ld 1 false (.t 44)),o1 46 (.bin .add (.t 39) (.t 45)),
  (mt 5 46)]
abbrev AM:AC:=
 (.seq (.reg Ma) (.cond (.t 29) (.reg L9) (.reg L8)))
abbrev AJ:List AO:=
 [(mt 22 6),o1 23 (.bin .add (.t 22) (ci 1)),
  (mt 6 23)]
abbrev AN:AC:=
 (.seq (.seq (.reg Mb) (.cond (.t 21) .skip (.exit 0))) (.seq (.block 1 AM) (.reg AJ)))
abbrev AL:AC:=
 (.loop AN)
abbrev AG:List AO:=
 [(mt 47 5),
  (mt 2 47),o1 3 (.mv (ci 0))]
abbrev Mj:AF:=⟨48,(.seq (.reg Mh) (.seq (.seq (.reg Mg) (.seq (.reg Mf) (.cond (.t 10) (.seq (.reg Me) .ret) .skip))) (.seq (.reg Md) (.seq (.seq (.reg Mc) (.block 0 AL)) (.seq (.reg AG) .ret))))),[.mv (.t 2),.mv (.t 3)]⟩
theorem Mi:av Tryz.prog (aa Tryz.prog 10) 10=some Mj:=by kernel_rfl
/-! compactorref21.Add-/
abbrev L3:List AO:=
 [o1 2 (.bx 34 0 (.t 0)),o1 3 (.bx 34 0 (.t 1)),o1 4 (.al 34 [.n .i64 0,.n .i64 0])]
abbrev L5:List (Nat×AO):=
 [(2,(o1 5 (.fa 0 (.t 2)))),(2,(o1 7 (.fa 0 (.t 3)))),(2,(o1 10 (.fa 1 (.t 2)))),(2,(o1 12 (.fa 1 (.t 3)))),(1,(o1 6 (.ld 1 false (.t 5)))),(1,(o1 8 (.ld 1 false (.t 7)))),(1,(o1 11 (.ld 1 false (.t 10)))),(1,(o1 13 (.ld 1 false (.t 12)))),
  (0,(o2 9 27 [.t 6,.t 8])),
  (3,(o2 14 27 [.t 11,.t 13])),(2,(o1 15 (.bd [.n .i64 0,.n .i64 0] [(0,1,(.t 9)),(1,1,(.t 14))]))),
  (3,(o3 (.st 2 (.t 4) (.t 15))))]
abbrev L6:AF:=⟨16,(.seq (.reg L3) (.seq (.mix L5) .ret)),[.ld 2 true (.t 4)]⟩
theorem L4:av Tryz.prog (aa Tryz.prog 12) 12=some L6:=by kernel_rfl
/-! compactorref21.Fits-/
abbrev LZ:List AO:=
 [o1 2 (.bx 34 0 (.t 0)),o1 3 (.bx 34 0 (.t 1)),o1 4 (.mv (.c (.b false)))]
abbrev LY:List AO:=
 [o1 5 (.ld 2 true (.t 2)),
  (o2 6 29 [.t 5]),
  (mt 7 6),
  (o5 8 7 (.ld 2 true (.t 3))),⟨some 9,some (7,true),.cl (.c (.f 29 [] [])) [.t 8]⟩,o1 10 (.pick (.t 7) (.t 9) (.c (.b false))),
  (mt 11 10),
  (o5 12 11 (.fa 0 (.t 2))),
  (o5 13 11 (.ld 1 false (.t 12))),
  (o5 14 11 (.fa 0 (.t 3))),
  (o5 15 11 (.ld 1 false (.t 14))),
  (o5 16 11 (.bin .leq (.t 13) (.t 15))),o1 17 (.pick (.t 11) (.t 16) (.c (.b false))),
  (mt 18 17),
  (o5 19 18 (.fa 1 (.t 2))),
  (o5 20 18 (.ld 1 false (.t 19))),
  (o5 21 18 (.fa 1 (.t 3))),
  (o5 22 18 (.ld 1 false (.t 21))),
  (o5 23 18 (.bin .leq (.t 20) (.t 22))),o1 24 (.pick (.t 18) (.t 23) (.c (.b false))),
  (mt 4 24)]
abbrev L1:AF:=⟨25,(.seq (.reg LZ) (.seq (.reg LY) .ret)),[.mv (.t 4)]⟩
theorem L0:av Tryz.prog (aa Tryz.prog 14) 14=some L1:=by kernel_rfl
/-! compactorlaw21.few-/
abbrev LW:List AO:=
 [o1 2 (.bx 25 0 (.t 0)),o1 3 (.bx 44 0 (.t 1)),o1 4 (.mv (.c (.b false)))]
abbrev LV:List AO:=
 [o1 5 (.ld 3 true (.t 2)),
  (o2 6 7 [.t 5]),
  (mt 7 6),
  (o5 8 7 (.ld 4 true (.t 3))),⟨some 9,some (7,true),.cl (.c (.f 30 [] [])) [.t 8]⟩,o1 10 (.pick (.t 7) (.t 9) (.c (.b false))),
  (mt 4 10)]
abbrev LX:AF:=⟨11,(.seq (.reg LW) (.seq (.reg LV) .ret)),[.mv (.t 4)]⟩
theorem yc:av Tryz.prog (aa Tryz.prog 15) 15=some LX:=by kernel_rfl
/-! compactorref21.Steps-/
abbrev LS:List AO:=
 [o1 2 (.bx 25 0 (.t 0)),o1 3 (.bx 44 0 (.t 1)),o1 4 (.mv (ci 0)),o1 5 (.mv (ci 0))]
abbrev LQ:List AO:=
 [o1 9 (.ld 3 true (.t 2)),o1 10 (.ld 4 true (.t 3)),
  (o2 11 35 [.t 9,.t 10]),
  (mt 8 11),o1 12 (.ext 0 (.t 8)),o1 13 (.ext 1 (.t 8)),
  (mt 6 12),
  (mt 7 13)]
abbrev LP:List AO:=
 [(mt 14 7),o1 15 (.bin .neq (.t 14) (ci 0))]
abbrev LO:List AO:=
 [(mt 16 7),o1 4 (.mv (ci 0)),
  (mt 5 16)]
abbrev LN:List AO:=
 [(mt 17 6),o1 18 (.ld 4 true (.t 3)),
  (o2 19 37 [.t 17,.t 18]),
  (o2 20 36 [.t 19]),o1 21 (.ext 0 (.t 20)),o1 22 (.ext 1 (.t 20)),
  (mt 4 21),
  (mt 5 22)]
abbrev LU:AF:=⟨23,(.seq (.reg LS) (.seq (.reg LQ) (.seq (.seq (.reg LP) (.cond (.t 15) (.seq (.reg LO) .ret) .skip)) (.seq (.reg LN) .ret)))),[.mv (.t 4),.mv (.t 5)]⟩
theorem yb:av Tryz.prog (aa Tryz.prog 17) 17=some LU:=by kernel_rfl
/-! cost.Emits-/
abbrev LL:List AO:=
 [o1 2 (.bx 25 0 (.t 0)),o1 3 (.bx 44 0 (.t 1)),o1 4 (.mv (ci 0)),o1 5 (.mv (ci 0))]
abbrev LK:List AO:=
 [o1 10 (.ld 3 true (.t 2)),o1 11 (.ld 4 true (.t 3)),
  (o2 12 31 [.t 10,.t 11]),
  (mt 9 12),o1 13 (.ext 0 (.t 9)),o1 14 (.ext 1 (.t 9)),o1 15 (.ext 2 (.t 9)),o1 6 (.al 69 [.sl0,.cv (.map none)]),
  (o3 (.st 2 (.t 6) (.t 13))),
  (mt 7 14),
  (mt 8 15)]
abbrev LJ:List AO:=
 [(mt 16 8),o1 17 (.bin .neq (.t 16) (ci 0))]
abbrev LI:List AO:=
 [(mt 18 8),o1 4 (.mv (ci 0)),
  (mt 5 18)]
abbrev LH:List AO:=
 [o1 19 (.ld 2 true (.t 6)),
  (mt 20 7),o1 21 (.ld 2 true (.t 6)),o1 22 (.mf 38 [.t 21] []),
  (o2 23 33 [.t 19,.t 20,.t 22,(ci 0)]),
  (o2 24 32 [.t 23]),o1 25 (.ext 0 (.t 24)),o1 26 (.ext 1 (.t 24)),
  (mt 4 25),
  (mt 5 26)]
abbrev LM:AF:=⟨27,(.seq (.reg LL) (.seq (.reg LK) (.seq (.seq (.reg LJ) (.cond (.t 17) (.seq (.reg LI) .ret) .skip)) (.seq (.reg LH) .ret)))),[.mv (.t 4),.mv (.t 5)]⟩
theorem ya:av Tryz.prog (aa Tryz.prog 18) 18=some LM:=by kernel_rfl
/-! compactorref21.Emits-/
abbrev LF:List AO:=
 [o1 2 (.bx 25 0 (.t 0)),o1 3 (.bx 44 0 (.t 1)),o1 4 (.mv (ci 0)),o1 5 (.mv (ci 0))]
abbrev LD:List AO:=
 [o1 9 (.ld 3 true (.t 2)),o1 10 (.ld 4 true (.t 3)),
  (o2 11 35 [.t 9,.t 10]),
  (mt 8 11),o1 12 (.ext 0 (.t 8)),o1 13 (.ext 1 (.t 8)),
  (mt 6 12),
  (mt 7 13)]
abbrev LC:List AO:=
 [(mt 14 7),o1 15 (.bin .neq (.t 14) (ci 0))]
abbrev LB:List AO:=
 [(mt 16 7),o1 4 (.mv (ci 0)),
  (mt 5 16)]
abbrev LA:List AO:=
 [(mt 17 6),o1 18 (.fa 2 (.t 2)),o1 19 (.ld 1 false (.t 18)),o1 20 (.ld 4 true (.t 3)),
  (o2 21 39 [.t 17,.t 19,.t 20]),
  (o2 22 36 [.t 21]),o1 23 (.ext 0 (.t 22)),o1 24 (.ext 1 (.t 22)),
  (mt 4 23),
  (mt 5 24)]
abbrev LG:AF:=⟨25,(.seq (.reg LF) (.seq (.reg LD) (.seq (.seq (.reg LC) (.cond (.t 15) (.seq (.reg LB) .ret) .skip)) (.seq (.reg LA) .ret)))),[.mv (.t 4),.mv (.t 5)]⟩
theorem x9:av Tryz.prog (aa Tryz.prog 19) 19=some LG:=by kernel_rfl
/-! compactorref15.Shallow-/
abbrev Ly:List AO:=
 [o1 2 (.mv (.c (.b false)))]
abbrev Lx:List AO:=
 [o1 3 (.mv (.c .sl0))]
abbrev Lw:List AO:=
 [o1 4 (.mv (ci 0))]
abbrev Lv:List AO:=
 [o1 5 (.mv (ci 0))]
abbrev Lu:List AO:=
 [(mt 7 5),
  (mt 8 0),o1 9 (.len (.t 8)),o1 10 (.bin .lss (.t 7) (.t 9)),
  (mt 11 10),
  (o5 12 11 (.mv (.t 4))),
  (o5 13 11 (.bin .leq (.t 12) (ci 3))),o1 14 (.pick (.t 11) (.t 13) (.c (.b false)))]
abbrev Ls:List AO:=
 [(mt 17 0),
  (mt 18 5),o1 19 (.ia 2 (.t 17) (.t 18)),o1 20 (.fa 0 (.t 19)),o1 21 (.ld 1 false (.t 20))]
abbrev Lr:List AO:=
 [o1 23 (.bin .eql (.t 21) (ci 29)),
  (mt 22 23)]
abbrev Lq:List AO:=
 [(mt 24 3),o1 25 (.bs 4 1 1 [.b false] [(0,1,(.c (.b true)))]),o1 26 (.app 4 1 1 (.t 24) (.t 25)),
  (mt 27 4),o1 28 (.bin .add (.t 27) (ci 1)),
  (mt 3 26),
  (mt 4 28)]
abbrev Lp:List AO:=
 [o1 30 (.bin .eql (.t 21) (ci 27)),
  (mt 29 30)]
abbrev Lo:List AO:=
 [(mt 31 3),o1 32 (.bs 4 1 1 [.b false] [(0,1,(.c (.b false)))]),o1 33 (.app 4 1 1 (.t 31) (.t 32)),
  (mt 3 33)]
abbrev Ax:List AO:=
 [o1 35 (.bin .eql (.t 21) (ci 31)),
  (mt 34 35)]
abbrev Aw:List AO:=
 [(mt 36 3),o1 37 (.len (.t 36)),o1 38 (.bin .sub (.t 37) (ci 1)),
  (mt 6 38)]
abbrev Av:List AO:=
 [(mt 39 6),o1 40 (.bin .geq (.t 39) (ci 0))]
abbrev Au:List AO:=
 [(mt 41 3),
  (mt 42 6),o1 43 (.ia 1 (.t 41) (.t 42)),o1 44 (.ld 1 false (.t 43))]
abbrev Ar:List AO:=
 [(mt 45 4),o1 46 (.bin .sub (.t 45) (ci 1)),
  (mt 4 46)]
abbrev Aq:List AO:=
 [(mt 47 3),
  (mt 48 6),o1 49 (.sl 1 (.t 47) none (some (.t 48))),
  (mt 3 49)]
abbrev AA:AC:=
 (.seq (.reg Lr) (.cond (.t 22) (.reg Lq) (.seq (.reg Lp) (.cond (.t 29) (.reg Lo) (.seq (.reg Ax) (.cond (.t 34) (.seq (.reg Aw) (.seq (.reg Av) (.cond (.t 40) (.seq (.seq (.reg Au) (.cond (.t 44) (.reg Ar) .skip)) (.reg Aq)) .skip))) .skip))))))
abbrev Az:AC:=
 (.seq (.reg Ls) (.block 2 AA))
abbrev Ap:List AO:=
 [(mt 15 5),o1 16 (.bin .add (.t 15) (ci 1)),
  (mt 5 16)]
abbrev AD:AC:=
 (.seq (.seq (.reg Lu) (.cond (.t 14) .skip (.exit 0))) (.seq (.block 1 Az) (.reg Ap)))
abbrev Ay:AC:=
 (.loop AD)
abbrev Ao:List AO:=
 [(mt 50 4),o1 51 (.bin .leq (.t 50) (ci 3)),
  (mt 2 51)]
abbrev Lz:AF:=⟨52,(.seq (.reg Ly) (.seq (.reg Lx) (.seq (.reg Lw) (.seq (.seq (.reg Lv) (.block 0 Ay)) (.seq (.reg Ao) .ret))))),[.mv (.t 2)]⟩
theorem x8:av Tryz.prog (aa Tryz.prog 20) 20=some Lz:=by kernel_rfl
/-! compactorref15.Form-/
abbrev Ll:List AO:=
 [o1 1 (.bx 25 0 (.t 0)),o1 2 (.mv (ci 0))]
abbrev Lk:List AO:=
 [o1 7 (.fa 0 (.t 1)),o1 8 (.ld 1 false (.t 7)),o1 9 (.len (.t 8)),o1 10 (.bin .gtr (.t 9) (ci 8))]
abbrev Lj:List AO:=
 [o1 2 (.mv (ci 6))]
abbrev Li:List AO:=
 [o1 3 (.mv (ci 0))]
abbrev Lh:List AO:=
 [o1 4 (.mv (ci 0))]
abbrev Lg:List AO:=
 [(mt 11 4),o1 12 (.fa 0 (.t 1)),o1 13 (.ld 1 false (.t 12)),o1 14 (.len (.t 13)),o1 15 (.bin .lss (.t 11) (.t 14))]
abbrev Lf:List AO:=
 [o1 18 (.fa 0 (.t 1)),o1 19 (.ld 1 false (.t 18)),
  (mt 20 4),o1 21 (.ia 2 (.t 19) (.t 20)),o1 22 (.fa 1 (.t 21)),o1 23 (.ld 1 false (.t 22)),o1 24 (.bin .lss (.t 23) (ci 1)),
  (mt 25 24),
  (o4 26 25 (.fa 0 (.t 1))),
  (o4 27 25 (.ld 1 false (.t 26))),
  (o4 28 25 (.mv (.t 4))),
  (o4 29 25 (.ia 2 (.t 27) (.t 28))),
  (o4 30 25 (.fa 1 (.t 29))),
  (o4 31 25 (.ld 1 false (.t 30))),
  (o4 32 25 (.bin .gtr (.t 31) (ci 65536))),o1 33 (.pick (.t 25) (.c (.b true)) (.t 32))]
abbrev Ld:List AO:=
 [o1 2 (.mv (ci 2))]
abbrev Lc:List AO:=
 [(mt 34 3),o1 35 (.fa 0 (.t 1)),o1 36 (.ld 1 false (.t 35)),
  (mt 37 4),o1 38 (.ia 2 (.t 36) (.t 37)),o1 39 (.fa 1 (.t 38)),o1 40 (.ld 1 false (.t 39)),o1 41 (.bin .add (.t 34) (.t 40)),
  (mt 3 41)]
abbrev Lm:AC:=
 (.seq (.seq (.reg Lf) (.cond (.t 33) (.seq (.reg Ld) .ret) .skip)) (.reg Lc))
abbrev Ai:List AO:=
 [(mt 16 4),o1 17 (.bin .add (.t 16) (ci 1)),
  (mt 4 17)]
abbrev An:AC:=
 (.seq (.seq (.reg Lg) (.cond (.t 15) .skip (.exit 0))) (.seq (.block 1 Lm) (.reg Ai)))
abbrev Al:AC:=
 (.loop An)
abbrev Ah:List AO:=
 [(mt 42 3),o1 43 (.bin .gtr (.t 42) (ci 65536)),
  (mt 44 43),
  (o4 45 44 (.fa 1 (.t 1))),
  (o4 46 44 (.ld 1 false (.t 45))),
  (o4 47 44 (.bin .lss (.t 46) (ci 0))),o1 48 (.pick (.t 44) (.c (.b true)) (.t 47)),
  (mt 49 48),
  (o4 50 49 (.fa 1 (.t 1))),
  (o4 51 49 (.ld 1 false (.t 50))),
  (o4 52 49 (.bin .gtr (.t 51) (ci 16))),o1 53 (.pick (.t 49) (.c (.b true)) (.t 52))]
abbrev Ag:List AO:=
 [o1 2 (.mv (ci 2))]
abbrev Af:List AO:=
 [o1 54 (.fa 2 (.t 1)),o1 55 (.ld 1 false (.t 54)),o1 56 (.len (.t 55)),o1 57 (.bin .gtr (.t 56) (ci 1024))]
abbrev Ae:List AO:=
 [o1 2 (.mv (ci 6))]
abbrev Ad:List AO:=
 [o1 5 (.mv (ci 0))]
abbrev Ac:List AO:=
 [(mt 58 5),o1 59 (.fa 2 (.t 1)),o1 60 (.ld 1 false (.t 59)),o1 61 (.len (.t 60)),o1 62 (.bin .lss (.t 58) (.t 61))]
abbrev Ab:List AO:=
 [o1 65 (.fa 2 (.t 1)),o1 66 (.ld 1 false (.t 65)),
  (mt 67 5),o1 68 (.ia 2 (.t 66) (.t 67)),o1 69 (.ld 2 true (.t 68)),
  (o2 70 51 [.t 69]),
  (mt 6 70)]
abbrev Aa:List AO:=
 [(mt 71 6),o1 72 (.bin .neq (.t 71) (ci 0))]
abbrev z9:List AO:=
 [(mt 73 6),
  (mt 2 73)]
abbrev Ak:AC:=
 (.seq (.reg Ab) (.seq (.reg Aa) (.cond (.t 72) (.seq (.reg z9) .ret) .skip)))
abbrev z8:List AO:=
 [(mt 63 5),o1 64 (.bin .add (.t 63) (ci 1)),
  (mt 5 64)]
abbrev Am:AC:=
 (.seq (.seq (.reg Ac) (.cond (.t 62) .skip (.exit 2))) (.seq (.block 3 Ak) (.reg z8)))
abbrev Aj:AC:=
 (.loop Am)
abbrev z7:List AO:=
 [o1 2 (.mv (ci 0))]
abbrev Ln:AF:=⟨74,(.seq (.reg Ll) (.seq (.seq (.reg Lk) (.cond (.t 10) (.seq (.reg Lj) .ret) .skip)) (.seq (.reg Li) (.seq (.seq (.reg Lh) (.block 0 Al)) (.seq (.seq (.reg Ah) (.cond (.t 53) (.seq (.reg Ag) .ret) .skip)) (.seq (.seq (.reg Af) (.cond (.t 57) (.seq (.reg Ae) .ret) .skip)) (.seq (.seq (.reg Ad) (.block 2 Aj)) (.seq (.reg z7) .ret)))))))),[.mv (.t 2)]⟩
theorem x7:av Tryz.prog (aa Tryz.prog 25) 25=some Ln:=by kernel_rfl
/-! compactorref21.sum-/
abbrev K9:List AO:=
 [o1 4 (.mv (ci 0))]
abbrev K8:List AO:=
 [(mt 5 0),o1 6 (.bin .lss (.t 5) (ci 0)),
  (mt 7 6),
  (o4 8 7 (.mv (.t 0))),
  (o4 9 7 (.bin .gtr (.t 8) (ci 281474976710656))),o1 10 (.pick (.t 7) (.c (.b true)) (.t 9)),
  (mt 11 10),
  (o4 12 11 (.mv (.t 1))),
  (o4 13 11 (.bin .lss (.t 12) (ci 0))),o1 14 (.pick (.t 11) (.c (.b true)) (.t 13)),
  (mt 15 14),
  (o4 16 15 (.mv (.t 1))),
  (o4 17 15 (.bin .gtr (.t 16) (ci 281474976710656))),o1 18 (.pick (.t 15) (.c (.b true)) (.t 17))]
abbrev K7:List AO:=
 [o1 4 (.mv (ci 281474976710656))]
abbrev K6:List AO:=
 [(mt 19 0),
  (mt 20 1),o1 21 (.bin .add (.t 19) (.t 20)),⟨some 22,none,.mo (.mi (.t 21) (ci 281474976710656))⟩,
  (mt 4 22)]
abbrev Lb:AF:=⟨23,(.seq (.reg K9) (.seq (.seq (.reg K8) (.cond (.t 18) (.seq (.reg K7) .ret) .skip)) (.seq (.reg K6) .ret))),[.mv (.t 4)]⟩
theorem La:av Tryz.prog (aa Tryz.prog 27) 27=some Lb:=by kernel_rfl
/-! compactorref21.formed-/
abbrev K3:List AO:=
 [o1 1 (.bx 34 0 (.t 0)),o1 2 (.mv (.c (.b false)))]
abbrev K2:List AO:=
 [o1 3 (.fa 0 (.t 1)),o1 4 (.ld 1 false (.t 3)),o1 5 (.bin .geq (.t 4) (ci 0)),
  (mt 6 5),
  (o5 7 6 (.fa 0 (.t 1))),
  (o5 8 6 (.ld 1 false (.t 7))),
  (o5 9 6 (.bin .leq (.t 8) (ci 281474976710656))),o1 10 (.pick (.t 6) (.t 9) (.c (.b false))),
  (mt 11 10),
  (o5 12 11 (.fa 1 (.t 1))),
  (o5 13 11 (.ld 1 false (.t 12))),
  (o5 14 11 (.bin .geq (.t 13) (ci 0))),o1 15 (.pick (.t 11) (.t 14) (.c (.b false))),
  (mt 16 15),
  (o5 17 16 (.fa 1 (.t 1))),
  (o5 18 16 (.ld 1 false (.t 17))),
  (o5 19 16 (.bin .leq (.t 18) (ci 281474976710656))),o1 20 (.pick (.t 16) (.t 19) (.c (.b false))),
  (mt 2 20)]
abbrev K5:AF:=⟨21,(.seq (.reg K3) (.seq (.reg K2) .ret)),[.mv (.t 2)]⟩
theorem K4:av Tryz.prog (aa Tryz.prog 29) 29=some K5:=by kernel_rfl
/-! compactorref20.Few-/
abbrev Js:List AO:=
 [o1 1 (.bx 44 0 (.t 0)),o1 2 (.mv (.c (.b false)))]
abbrev Jr:List AO:=
 [o1 3 (.mv (ci 0))]
abbrev Jq:List AO:=
 [(mt 4 3),o1 5 (.fa 3 (.t 1)),o1 6 (.ld 1 false (.t 5)),o1 7 (.len (.t 6)),o1 8 (.bin .lss (.t 4) (.t 7)),
  (mt 9 8),
  (o5 10 9 (.mv (.t 3))),
  (o5 11 9 (.bin .lss (.t 10) (ci 60))),o1 12 (.pick (.t 9) (.t 11) (.c (.b false)))]
abbrev Jp:List AO:=
 [o1 15 (.fa 3 (.t 1)),o1 16 (.ld 1 false (.t 15)),
  (mt 17 3),o1 18 (.ia 3 (.t 16) (.t 17)),o1 19 (.fa 2 (.t 18)),o1 20 (.ld 1 false (.t 19)),o1 21 (.len (.t 20)),o1 22 (.bin .gtr (.t 21) (ci 40))]
abbrev Jo:List AO:=
 [o1 2 (.mv (.c (.b false)))]
abbrev Ju:AC:=
 (.seq (.reg Jp) (.cond (.t 22) (.seq (.reg Jo) .ret) .skip))
abbrev Jn:List AO:=
 [(mt 13 3),o1 14 (.bin .add (.t 13) (ci 1)),
  (mt 3 14)]
abbrev Jv:AC:=
 (.seq (.seq (.reg Jq) (.cond (.t 12) .skip (.exit 0))) (.seq (.block 1 Ju) (.reg Jn)))
abbrev Jt:AC:=
 (.loop Jv)
abbrev Jm:List AO:=
 [o1 23 (.fa 3 (.t 1)),o1 24 (.ld 1 false (.t 23)),o1 25 (.len (.t 24)),o1 26 (.bin .leq (.t 25) (ci 60)),
  (mt 2 26)]
abbrev zJ:AF:=⟨27,(.seq (.reg Js) (.seq (.seq (.reg Jr) (.block 0 Jt)) (.seq (.reg Jm) .ret))),[.mv (.t 2)]⟩
theorem rj:av Tryz.prog (aa Tryz.prog 30) 30=some zJ:=by kernel_rfl
/-! compactorref21.check-/
abbrev Jk:List AO:=
 [o1 2 (.bx 25 0 (.t 0)),o1 3 (.bx 44 0 (.t 1)),o1 4 (.mv (.c .sl0)),o1 5 (.mv (ci 0))]
abbrev Jj:List AO:=
 [o1 16 (.ld 3 true (.t 2)),
  (o2 17 55 [.t 16]),
  (mt 15 17),o1 18 (.ext 0 (.t 15)),o1 19 (.ext 1 (.t 15)),
  (mt 6 18),
  (mt 7 19)]
abbrev Ji:List AO:=
 [(mt 20 7),o1 21 (.bin .neq (.t 20) (ci 0))]
abbrev Jh:List AO:=
 [(mt 22 7),o1 4 (.mv (.c .sl0)),
  (mt 5 22)]
abbrev Jg:List AO:=
 [o1 24 (.fa 2 (.t 2)),o1 25 (.ld 1 false (.t 24)),
  (o2 26 56 [.t 25]),
  (mt 23 26),o1 27 (.ext 0 (.t 23)),o1 28 (.ext 1 (.t 23)),
  (mt 8 27),
  (mt 9 28)]
abbrev Jf:List AO:=
 [(mt 29 8),o1 30 (.len (.t 29)),o1 31 (.fa 3 (.t 3)),o1 32 (.ld 1 false (.t 31)),o1 33 (.len (.t 32)),o1 34 (.bin .neq (.t 30) (.t 33))]
abbrev Je:List AO:=
 [o1 4 (.mv (.c .sl0)),o1 5 (.mv (ci 23))]
abbrev Jd:List AO:=
 [o1 10 (.mv (ci 0))]
abbrev Jc:List AO:=
 [(mt 35 10),
  (mt 36 8),o1 37 (.len (.t 36)),o1 38 (.bin .lss (.t 35) (.t 37))]
abbrev Jl:List (Nat×AO):=
 [(2,(o1 41 (.fa 3 (.t 3)))),
  (2,(mt 43 10)),
  (2,(mt 47 8)),
  (2,(mt 48 10)),(2,(o1 49 (.ia 1 (.t 47) (.t 48)))),(1,(o1 42 (.ld 1 false (.t 41)))),(2,(o1 44 (.ia 3 (.t 42) (.t 43)))),(2,(o1 45 (.fa 0 (.t 44)))),(1,(o1 46 (.ld 1 false (.t 45)))),(1,(o1 50 (.ld 1 false (.t 49)))),(2,(o1 51 (.bin .neq (.t 46) (.t 50))))]
abbrev ww:List AO:=
 [o1 4 (.mv (.c .sl0)),o1 5 (.mv (ci 23))]
abbrev wB:AC:=
 (.seq (.mix Jl) (.cond (.t 51) (.seq (.reg ww) .ret) .skip))
abbrev wv:List AO:=
 [(mt 39 10),o1 40 (.bin .add (.t 39) (ci 1)),
  (mt 10 40)]
abbrev wD:AC:=
 (.seq (.seq (.reg Jc) (.cond (.t 38) .skip (.exit 0))) (.seq (.block 1 wB) (.reg wv)))
abbrev wA:AC:=
 (.loop wD)
abbrev wu:List AO:=
 [o1 11 (.mv (ci 0))]
abbrev wt:List AO:=
 [(mt 52 11),
  (mt 53 8),o1 54 (.len (.t 53)),o1 55 (.bin .lss (.t 52) (.t 54))]
abbrev ws:List AO:=
 [o1 58 (.fa 3 (.t 3)),o1 59 (.ld 1 false (.t 58)),
  (mt 60 11),o1 61 (.ia 3 (.t 59) (.t 60)),o1 62 (.fa 1 (.t 61)),o1 63 (.ld 1 false (.t 62)),o1 64 (.bin .lss (.t 63) (ci 0)),
  (mt 65 64),
  (o4 66 65 (.fa 3 (.t 3))),
  (o4 67 65 (.ld 1 false (.t 66))),
  (o4 68 65 (.mv (.t 11))),
  (o4 69 65 (.ia 3 (.t 67) (.t 68))),
  (o4 70 65 (.fa 1 (.t 69))),
  (o4 71 65 (.ld 1 false (.t 70))),
  (o4 72 65 (.bin .gtr (.t 71) (ci 65536))),o1 73 (.pick (.t 65) (.c (.b true)) (.t 72))]
abbrev wo:List AO:=
 [o1 4 (.mv (.c .sl0)),o1 5 (.mv (ci 2))]
abbrev wz:AC:=
 (.seq (.reg ws) (.cond (.t 73) (.seq (.reg wo) .ret) .skip))
abbrev wl:List AO:=
 [(mt 56 11),o1 57 (.bin .add (.t 56) (ci 1)),
  (mt 11 57)]
abbrev wC:AC:=
 (.seq (.seq (.reg wt) (.cond (.t 55) .skip (.exit 2))) (.seq (.block 3 wz) (.reg wl)))
abbrev wy:AC:=
 (.loop wC)
abbrev wj:List AO:=
 [o1 75 (.fa 2 (.t 2)),o1 76 (.ld 1 false (.t 75)),
  (o2 77 57 [.t 76]),
  (mt 74 77),o1 78 (.ext 0 (.t 74)),o1 79 (.ext 1 (.t 74)),o1 80 (.ext 2 (.t 74)),
  (mt 12 78),
  (mt 13 79),
  (mt 14 80)]
abbrev wi:List AO:=
 [(mt 81 12),
  (mt 4 81),o1 5 (.mv (ci 0))]
abbrev zI:AF:=⟨82,(.seq (.reg Jk) (.seq (.seq (.reg Jj) (.seq (.reg Ji) (.cond (.t 21) (.seq (.reg Jh) .ret) .skip))) (.seq (.reg Jg) (.seq (.seq (.reg Jf) (.cond (.t 34) (.seq (.reg Je) .ret) .skip)) (.seq (.seq (.reg Jd) (.block 0 wA)) (.seq (.seq (.reg wu) (.block 2 wy)) (.seq (.reg wj) (.seq (.reg wi) .ret)))))))),[.mv (.t 4),.mv (.t 5)]⟩
theorem ri:av Tryz.prog (aa Tryz.prog 35) 35=some zI:=by kernel_rfl
/-! compactorref21.bounded-/
abbrev Jb:List AO:=
 [o1 2 (.mv (ci 0)),o1 3 (.mv (ci 0))]
abbrev Ja:List AO:=
 [(mt 4 0),o1 5 (.bin .gtr (.t 4) (ci 281474976710656))]
abbrev I9:List AO:=
 [o1 2 (.mv (ci 0)),o1 3 (.mv (ci 18))]
abbrev I8:List AO:=
 [(mt 6 0),
  (mt 2 6),o1 3 (.mv (ci 0))]
abbrev zH:AF:=⟨7,(.seq (.reg Jb) (.seq (.seq (.reg Ja) (.cond (.t 5) (.seq (.reg I9) .ret) .skip)) (.seq (.reg I8) .ret))),[.mv (.t 2),.mv (.t 3)]⟩
theorem rh:av Tryz.prog (aa Tryz.prog 36) 36=some zH:=by kernel_rfl
/-! compactorref21.steps-/
abbrev I5:List AO:=
 [o1 3 (.bx 44 0 (.t 1)),o1 4 (.mv (ci 0))]
abbrev I4:List AO:=
 [o1 5 (.mv (ci 0))]
abbrev I3:List AO:=
 [o1 6 (.mv (ci 0))]
abbrev I2:List AO:=
 [(mt 8 6),
  (mt 9 0),o1 10 (.len (.t 9)),o1 11 (.bin .lss (.t 8) (.t 10))]
abbrev I1:List AO:=
 [(mt 14 0),
  (mt 15 6),o1 16 (.ia 5 (.t 14) (.t 15)),o1 17 (.ld 5 true (.t 16)),o1 7 (.al 106 [.n .i64 0,.n .i64 0,.n .i64 0,.sl0,.sl0]),
  (o3 (.st 5 (.t 7) (.t 17)))]
abbrev I0:List AO:=
 [o1 18 (.fa 0 (.t 7)),o1 19 (.ld 1 false (.t 18))]
abbrev IZ:List AO:=
 [o1 29 (.bin .eql (.t 19) (ci 27)),
  (mt 28 29)]
abbrev I7:List (Nat×AO):=
 [(2,(mt 30 5)),(2,(o1 31 (.bin .add (.t 30) (ci 1)))),(2,(o1 32 (.fa 3 (.t 7)))),(2,(o1 36 (.fa 4 (.t 7)))),(1,(o1 33 (.ld 1 false (.t 32)))),(1,(o1 34 (.ld 4 true (.t 3)))),(1,(o1 37 (.ld 1 false (.t 36)))),(1,(o1 38 (.ld 4 true (.t 3)))),
  (0,(o2 35 37 [.t 33,.t 34])),
  (3,(o2 39 37 [.t 37,.t 38])),(3,⟨some 40,none,.mo (.mx (.t 35) (.t 39))⟩),(2,(o1 41 (.bin .add (.t 31) (.t 40)))),
  (3,(o2 42 58 [.t 41])),
  (2,(mt 5 42))]
abbrev IY:List AO:=
 [o1 44 (.bin .eql (.t 19) (ci 29)),
  (mt 43 44)]
abbrev I6:List (Nat×AO):=
 [(2,(mt 45 5)),(2,(o1 46 (.bin .add (.t 45) (ci 1)))),(2,(o1 47 (.fa 3 (.t 7)))),(2,(o1 54 (.fa 1 (.t 7)))),(1,(o1 48 (.ld 1 false (.t 47)))),(1,(o1 49 (.ld 4 true (.t 3)))),(1,(o1 53 (.ld 4 true (.t 3)))),(1,(o1 55 (.ld 1 false (.t 54)))),
  (0,(o2 50 37 [.t 48,.t 49])),(2,(o1 51 (.bin .add (.t 50) (ci 1)))),
  (0,(o2 52 58 [.t 51])),
  (3,(o2 56 60 [.t 53,.t 55])),
  (3,(o2 57 59 [.t 52,.t 56])),(2,(o1 58 (.bin .add (.t 46) (.t 57)))),
  (3,(o2 59 58 [.t 58])),
  (2,(mt 5 59))]
abbrev v8:List AO:=
 [(mt 20 5),o1 21 (.fa 2 (.t 7)),o1 22 (.ld 1 false (.t 21)),o1 23 (.bin .add (.t 20) (.t 22)),o1 24 (.fa 1 (.t 7)),o1 25 (.ld 1 false (.t 24)),o1 26 (.bin .sub (.t 23) (.t 25)),
  (o2 27 58 [.t 26]),
  (mt 5 27)]
abbrev wg:AC:=
 (.seq (.reg IZ) (.cond (.t 28) (.mix I7) (.seq (.reg IY) (.cond (.t 43) (.mix I6) (.reg v8)))))
abbrev wc:AC:=
 (.seq (.reg I1) (.seq (.reg I0) (.block 2 wg)))
abbrev v7:List AO:=
 [(mt 12 6),o1 13 (.bin .add (.t 12) (ci 1)),
  (mt 6 13)]
abbrev wh:AC:=
 (.seq (.seq (.reg I2) (.cond (.t 11) .skip (.exit 0))) (.seq (.block 1 wc) (.reg v7)))
abbrev v9:AC:=
 (.loop wh)
abbrev v6:List AO:=
 [(mt 60 5),
  (mt 4 60)]
abbrev zG:AF:=⟨61,(.seq (.reg I5) (.seq (.reg I4) (.seq (.seq (.reg I3) (.block 0 v9)) (.seq (.reg v6) .ret)))),[.mv (.t 4)]⟩
theorem re:av Tryz.prog (aa Tryz.prog 37) 37=some zG:=by kernel_rfl
/-! cost.bounds.emits-/
abbrev IV:List AO:=
 [o1 3 (.bx 69 0 (.t 0)),o1 6 (.mv (ci 0))]
abbrev IU:List AO:=
 [o1 7 (.mv (ci 0))]
abbrev IR:List AO:=
 [o1 10 (.fa 0 (.t 3)),o1 11 (.ld 1 false (.t 10)),
  (mt 12 1),
  (mt 13 2),o1 14 (.sl 2 (.t 11) (some (.t 12)) (some (.t 13))),o1 15 (.len (.t 14)),o1 16 (.mv (ci 0))]
abbrev IQ:List AO:=
 [o1 17 (.bin .lss (.t 16) (.t 15))]
abbrev IP:List AO:=
 [o1 18 (.ia 2 (.t 14) (.t 16)),o1 19 (.ld 2 true (.t 18)),o1 9 (.al 82 [.n .i64 0,.n .u32 0]),
  (o3 (.st 2 (.t 9) (.t 19)))]
abbrev IM:List AO:=
 [o1 20 (.fa 0 (.t 9)),o1 21 (.ld 1 false (.t 20)),o1 22 (.bin .eql (.t 21) (ci 34))]
abbrev IL:List AO:=
 [(mt 23 7),o1 24 (.bin .add (.t 23) (ci 1)),
  (mt 7 24)]
abbrev IW:AC:=
 (.seq (.reg IP) (.seq (.reg IM) (.cond (.t 22) (.reg IL) .skip)))
abbrev IK:List AO:=
 [o1 25 (.bin .add (.t 16) (ci 1)),
  (mt 16 25)]
abbrev IX:AC:=
 (.seq (.reg IQ) (.seq (.cond (.t 17) .skip (.exit 0)) (.seq (.block 1 IW) (.reg IK))))
abbrev v5:AC:=
 (.loop IX)
abbrev v4:List AO:=
 [(mt 26 7),
  (mt 6 26)]
abbrev zF:AF:=⟨27,(.seq (.reg IV) (.seq (.reg IU) (.seq (.seq (.reg IR) (.block 0 v5)) (.seq (.reg v4) .ret)))),[.mv (.t 6)]⟩
theorem rd:av Tryz.prog (aa Tryz.prog 38) 38=some zF:=by kernel_rfl
/-! compactorref21.emits-/
abbrev IH:List AO:=
 [o1 5 (.bx 44 0 (.t 2)),o1 6 (.mv (ci 0))]
abbrev IG:List AO:=
 [o1 7 (.mv (ci 0))]
abbrev IE:List AO:=
 [o1 8 (.mv (ci 0))]
abbrev IC:List AO:=
 [(mt 11 8),
  (mt 12 0),o1 13 (.len (.t 12)),o1 14 (.bin .lss (.t 11) (.t 13))]
abbrev IB:List AO:=
 [(mt 17 0),
  (mt 18 8),o1 19 (.ia 5 (.t 17) (.t 18)),o1 20 (.ld 5 true (.t 19)),o1 9 (.al 106 [.n .i64 0,.n .i64 0,.n .i64 0,.sl0,.sl0]),
  (o3 (.st 5 (.t 9) (.t 20)))]
abbrev IA:List AO:=
 [o1 21 (.fa 0 (.t 9)),o1 22 (.ld 1 false (.t 21))]
abbrev Iz:List AO:=
 [o1 41 (.bin .eql (.t 22) (ci 27)),
  (mt 40 41)]
abbrev IJ:List (Nat×AO):=
 [(2,(mt 42 7)),(2,(o1 43 (.fa 3 (.t 9)))),
  (2,(mt 45 1)),(2,(o1 48 (.fa 4 (.t 9)))),
  (2,(mt 50 1)),(1,(o1 44 (.ld 1 false (.t 43)))),(1,(o1 46 (.ld 4 true (.t 5)))),(1,(o1 49 (.ld 1 false (.t 48)))),(1,(o1 51 (.ld 4 true (.t 5)))),
  (0,(o2 47 39 [.t 44,.t 45,.t 46])),
  (3,(o2 52 39 [.t 49,.t 50,.t 51])),(3,⟨some 53,none,.mo (.mx (.t 47) (.t 52))⟩),(2,(o1 54 (.bin .add (.t 42) (.t 53)))),
  (3,(o2 55 58 [.t 54])),
  (2,(mt 7 55))]
abbrev Iy:List AO:=
 [o1 57 (.bin .eql (.t 22) (ci 29)),
  (mt 56 57)]
abbrev II:List (Nat×AO):=
 [(2,(mt 58 7)),(2,(o1 59 (.fa 3 (.t 9)))),
  (2,(mt 61 1)),(2,(o1 65 (.fa 1 (.t 9)))),(1,(o1 60 (.ld 1 false (.t 59)))),(1,(o1 62 (.ld 4 true (.t 5)))),(1,(o1 64 (.ld 4 true (.t 5)))),(1,(o1 66 (.ld 1 false (.t 65)))),
  (0,(o2 63 39 [.t 60,.t 61,.t 62])),
  (3,(o2 67 60 [.t 64,.t 66])),
  (3,(o2 68 59 [.t 63,.t 67])),(2,(o1 69 (.bin .add (.t 58) (.t 68)))),
  (3,(o2 70 58 [.t 69])),
  (2,(mt 7 70))]
abbrev vS:List AO:=
 [o1 23 (.fa 1 (.t 9)),o1 24 (.ld 1 false (.t 23)),
  (mt 10 24)]
abbrev vR:List AO:=
 [(mt 25 10),o1 26 (.fa 2 (.t 9)),o1 27 (.ld 1 false (.t 26)),o1 28 (.bin .lss (.t 25) (.t 27))]
abbrev vQ:List AO:=
 [(mt 31 1),
  (mt 32 10),o1 33 (.ia 2 (.t 31) (.t 32)),o1 34 (.fa 0 (.t 33)),o1 35 (.ld 1 false (.t 34)),o1 36 (.bin .eql (.t 35) (ci 34))]
abbrev vP:List AO:=
 [(mt 37 7),o1 38 (.bin .add (.t 37) (ci 1)),
  (o2 39 58 [.t 38]),
  (mt 7 39)]
abbrev vX:AC:=
 (.seq (.reg vQ) (.cond (.t 36) (.reg vP) .skip))
abbrev vO:List AO:=
 [(mt 29 10),o1 30 (.bin .add (.t 29) (ci 1)),
  (mt 10 30)]
abbrev vZ:AC:=
 (.seq (.seq (.reg vR) (.cond (.t 28) .skip (.exit 3))) (.seq (.block 4 vX) (.reg vO)))
abbrev vW:AC:=
 (.loop vZ)
abbrev vV:AC:=
 (.seq (.reg Iz) (.cond (.t 40) (.mix IJ) (.seq (.reg Iy) (.cond (.t 56) (.mix II) (.seq (.reg vS) (.block 3 vW))))))
abbrev vU:AC:=
 (.seq (.reg IB) (.seq (.reg IA) (.block 2 vV)))
abbrev vN:List AO:=
 [(mt 15 8),o1 16 (.bin .add (.t 15) (ci 1)),
  (mt 8 16)]
abbrev vY:AC:=
 (.seq (.seq (.reg IC) (.cond (.t 14) .skip (.exit 0))) (.seq (.block 1 vU) (.reg vN)))
abbrev vT:AC:=
 (.loop vY)
abbrev vM:List AO:=
 [(mt 71 7),
  (mt 6 71)]
abbrev zE:AF:=⟨72,(.seq (.reg IH) (.seq (.reg IG) (.seq (.seq (.reg IE) (.block 0 vT)) (.seq (.reg vM) .ret)))),[.mv (.t 6)]⟩
theorem ra:av Tryz.prog (aa Tryz.prog 39) 39=some zE:=by kernel_rfl
/-! compactorref15.Check-/
abbrev Ix:List AO:=
 [o1 1 (.bx 82 0 (.t 0)),o1 2 (.mv (ci 0))]
abbrev Iw:List AO:=
 [o1 4 (.fa 0 (.t 1)),o1 5 (.ld 1 false (.t 4)),o1 6 (.bin .lss (.t 5) (ci 0)),
  (mt 7 6),
  (o4 8 7 (.fa 0 (.t 1))),
  (o4 9 7 (.ld 1 false (.t 8))),
  (o4 10 7 (.bin .geq (.t 9) (ci 36))),o1 11 (.pick (.t 7) (.c (.b true)) (.t 10))]
abbrev Iv:List AO:=
 [o1 2 (.mv (ci 1))]
abbrev Iu:List AO:=
 [o1 3 (.mv (ci 0))]
abbrev It:List AO:=
 [o1 12 (.fa 0 (.t 1)),o1 13 (.ld 1 false (.t 12))]
abbrev Ir:List AO:=
 [o1 15 (.bin .eql (.t 13) (ci 0)),
  (mt 14 15)]
abbrev Iq:List AO:=
 [o1 2 (.mv (ci 0))]
abbrev Ip:List AO:=
 [o1 17 (.bin .eql (.t 13) (ci 1)),
  (mt 16 17)]
abbrev Im:List AO:=
 [o1 18 (.bin .eql (.t 13) (ci 2)),
  (mt 16 18)]
abbrev Il:List AO:=
 [o1 3 (.mv (ci 15))]
abbrev vJ:List AO:=
 [o1 20 (.bin .eql (.t 13) (ci 3)),
  (mt 19 20)]
abbrev vH:List AO:=
 [o1 21 (.bin .eql (.t 13) (ci 4)),
  (mt 19 21)]
abbrev vG:List AO:=
 [o1 3 (.mv (ci 7))]
abbrev vF:List AO:=
 [o1 23 (.bin .eql (.t 13) (ci 35)),
  (mt 22 23)]
abbrev vE:List AO:=
 [o1 3 (.mv (ci 15))]
abbrev vL:AC:=
 (.seq (.reg Ir) (.cond (.t 14) (.seq (.reg Iq) .ret) (.seq (.seq (.reg Ip) (.cond (.t 16) .skip (.reg Im))) (.cond (.t 16) (.reg Il) (.seq (.seq (.reg vJ) (.cond (.t 19) .skip (.reg vH))) (.cond (.t 19) (.reg vG) (.seq (.reg vF) (.cond (.t 22) (.reg vE) .skip))))))))
abbrev vD:List AO:=
 [o1 24 (.fa 1 (.t 1)),o1 25 (.ld 1 false (.t 24)),o1 26 (.cvi .i64 (.t 25)),
  (mt 27 3),o1 28 (.bin .gtr (.t 26) (.t 27))]
abbrev vC:List AO:=
 [o1 2 (.mv (ci 2))]
abbrev vB:List AO:=
 [o1 2 (.mv (ci 0))]
abbrev zD:AF:=⟨29,(.seq (.reg Ix) (.seq (.seq (.reg Iw) (.cond (.t 11) (.seq (.reg Iv) .ret) .skip)) (.seq (.reg Iu) (.seq (.seq (.reg It) (.block 0 vL)) (.seq (.seq (.reg vD) (.cond (.t 28) (.seq (.reg vC) .ret) .skip)) (.seq (.reg vB) .ret)))))),[.mv (.t 2)]⟩
theorem qZ:av Tryz.prog (aa Tryz.prog 51) 51=some zD:=by kernel_rfl
/-! compactorref20.Check-/
abbrev Ik:List AO:=
 [o1 1 (.bx 25 0 (.t 0)),o1 2 (.mv (ci 0)),o1 3 (.mv (ci 0))]
abbrev Ij:List AO:=
 [o1 10 (.ld 3 true (.t 1)),
  (o2 11 25 [.t 10]),
  (mt 4 11)]
abbrev Ii:List AO:=
 [(mt 12 4),o1 13 (.bin .neq (.t 12) (ci 0))]
abbrev Ih:List AO:=
 [(mt 14 4),o1 2 (.mv (ci 0)),
  (mt 3 14)]
abbrev Ig:List AO:=
 [o1 16 (.fa 2 (.t 1)),o1 17 (.ld 1 false (.t 16)),
  (o2 18 57 [.t 17]),
  (mt 15 18),o1 19 (.ext 0 (.t 15)),o1 20 (.ext 1 (.t 15)),o1 21 (.ext 2 (.t 15)),
  (mt 5 19),
  (mt 6 20),
  (mt 7 21)]
abbrev Ie:List AO:=
 [(mt 22 7),o1 23 (.bin .neq (.t 22) (ci 0))]
abbrev Ic:List AO:=
 [(mt 24 6),
  (mt 25 7),
  (mt 2 24),
  (mt 3 25)]
abbrev Ib:List AO:=
 [o1 8 (.mv (ci 0))]
abbrev Ia:List AO:=
 [(mt 26 8),o1 27 (.fa 2 (.t 1)),o1 28 (.ld 1 false (.t 27)),o1 29 (.len (.t 28)),o1 30 (.bin .lss (.t 26) (.t 29))]
abbrev H9:List AO:=
 [o1 33 (.fa 2 (.t 1)),o1 34 (.ld 1 false (.t 33)),
  (mt 35 8),o1 36 (.ia 2 (.t 34) (.t 35)),o1 37 (.ld 2 true (.t 36)),o1 9 (.al 82 [.n .i64 0,.n .u32 0]),
  (o3 (.st 2 (.t 9) (.t 37)))]
abbrev vx:List AO:=
 [o1 38 (.fa 0 (.t 9)),o1 39 (.ld 1 false (.t 38)),o1 40 (.bin .eql (.t 39) (ci 1)),
  (mt 41 40),
  (o4 42 41 (.fa 0 (.t 9))),
  (o4 43 41 (.ld 1 false (.t 42))),
  (o4 44 41 (.bin .eql (.t 43) (ci 2))),o1 45 (.pick (.t 41) (.c (.b true)) (.t 44)),
  (mt 46 45),
  (o5 47 46 (.fa 1 (.t 9))),
  (o5 48 46 (.ld 1 false (.t 47))),
  (o5 49 46 (.cvi .i64 (.t 48))),
  (o5 50 46 (.fa 1 (.t 1))),
  (o5 51 46 (.ld 1 false (.t 50))),
  (o5 52 46 (.bin .geq (.t 49) (.t 51))),o1 53 (.pick (.t 46) (.t 52) (.c (.b false))),
  (mt 54 53),
  (o4 55 54 (.fa 0 (.t 9))),
  (o4 56 54 (.ld 1 false (.t 55))),
  (o4 57 54 (.bin .eql (.t 56) (ci 3))),
  (o4 58 54 (.mv (.t 57))),
  (o4 59 58 (.fa 0 (.t 9))),
  (o4 60 58 (.ld 1 false (.t 59))),
  (o4 61 58 (.bin .eql (.t 60) (ci 4))),
  (o4 62 54 (.pick (.t 58) (.c (.b true)) (.t 61))),
  (o4 63 54 (.mv (.t 62))),
  (o5 64 63 (.fa 1 (.t 9))),
  (o5 65 63 (.ld 1 false (.t 64))),
  (o5 66 63 (.cvi .i64 (.t 65))),
  (o5 67 63 (.fa 0 (.t 1))),
  (o5 68 63 (.ld 1 false (.t 67))),
  (o5 69 63 (.len (.t 68))),
  (o5 70 63 (.bin .geq (.t 66) (.t 69))),
  (o4 71 54 (.pick (.t 63) (.t 70) (.c (.b false)))),o1 72 (.pick (.t 54) (.c (.b true)) (.t 71))]
abbrev vu:List AO:=
 [(mt 73 8),
  (mt 2 73),o1 3 (.mv (ci 2))]
abbrev vz:AC:=
 (.seq (.reg H9) (.seq (.reg vx) (.cond (.t 72) (.seq (.reg vu) .ret) .skip)))
abbrev vt:List AO:=
 [(mt 31 8),o1 32 (.bin .add (.t 31) (ci 1)),
  (mt 8 32)]
abbrev vA:AC:=
 (.seq (.seq (.reg Ia) (.cond (.t 30) .skip (.exit 0))) (.seq (.block 1 vz) (.reg vt)))
abbrev vy:AC:=
 (.loop vA)
abbrev vr:List AO:=
 [o1 2 (.mv (ci 0)),o1 3 (.mv (ci 0))]
abbrev zC:AF:=⟨74,(.seq (.reg Ik) (.seq (.seq (.reg Ij) (.seq (.reg Ii) (.cond (.t 13) (.seq (.reg Ih) .ret) .skip))) (.seq (.seq (.reg Ig) (.seq (.reg Ie) (.cond (.t 23) (.seq (.reg Ic) .ret) .skip))) (.seq (.seq (.reg Ib) (.block 0 vy)) (.seq (.reg vr) .ret))))),[.mv (.t 2),.mv (.t 3)]⟩
theorem qY:av Tryz.prog (aa Tryz.prog 55) 55=some zC:=by kernel_rfl
/-! compactorref18.Loops-/
abbrev H7:List AO:=
 [o1 2 (.mv (.c .sl0)),o1 3 (.mv (ci 0))]
abbrev H6:List AO:=
 [(mt 10 0),
  (o2 11 83 [.t 10]),
  (mt 9 11),o1 12 (.ext 0 (.t 9)),o1 13 (.ext 1 (.t 9)),o1 14 (.ext 2 (.t 9)),
  (mt 4 12),
  (mt 5 13),
  (mt 6 14)]
abbrev H5:List AO:=
 [(mt 15 6),o1 16 (.bin .neq (.t 15) (ci 0))]
abbrev HZ:List AO:=
 [(mt 17 6),o1 2 (.mv (.c .sl0)),
  (mt 3 17)]
abbrev HY:List AO:=
 [o1 7 (.mv (.c .sl0))]
abbrev HX:List AO:=
 [o1 8 (.mv (ci 0))]
abbrev HW:List AO:=
 [(mt 18 8),
  (mt 19 0),o1 20 (.len (.t 19)),o1 21 (.bin .lss (.t 18) (.t 20))]
abbrev HV:List AO:=
 [(mt 24 0),
  (mt 25 8),o1 26 (.ia 2 (.t 24) (.t 25)),o1 27 (.fa 0 (.t 26)),o1 28 (.ld 1 false (.t 27)),o1 29 (.bin .eql (.t 28) (ci 29))]
abbrev HT:List AO:=
 [(mt 30 7),
  (mt 31 8),o1 32 (.bs 3 1 1 [.n .i64 0] [(0,1,(.t 31))]),o1 33 (.app 3 1 8 (.t 30) (.t 32)),
  (mt 7 33)]
abbrev H8:AC:=
 (.seq (.reg HV) (.cond (.t 29) (.reg HT) .skip))
abbrev vo:List AO:=
 [(mt 22 8),o1 23 (.bin .add (.t 22) (ci 1)),
  (mt 8 23)]
abbrev vq:AC:=
 (.seq (.seq (.reg HW) (.cond (.t 21) .skip (.exit 0))) (.seq (.block 1 H8) (.reg vo)))
abbrev vp:AC:=
 (.loop vq)
abbrev vn:List AO:=
 [(mt 34 7),
  (mt 2 34),o1 3 (.mv (ci 0))]
abbrev zB:AF:=⟨35,(.seq (.reg H7) (.seq (.seq (.reg H6) (.seq (.reg H5) (.cond (.t 16) (.seq (.reg HZ) .ret) .skip))) (.seq (.reg HY) (.seq (.seq (.reg HX) (.block 0 vp)) (.seq (.reg vn) .ret))))),[.mv (.t 2),.mv (.t 3)]⟩
theorem qX:av Tryz.prog (aa Tryz.prog 56) 56=some zB:=by kernel_rfl
/-! compactorref18.Parse-/
abbrev HS:List AO:=
 [o1 2 (.mv (.c .sl0)),o1 3 (.mv (ci 0)),o1 4 (.mv (ci 0))]
abbrev HQ:List AO:=
 [(mt 9 0),
  (o2 10 83 [.t 9]),
  (mt 8 10),o1 11 (.ext 0 (.t 8)),o1 12 (.ext 1 (.t 8)),o1 13 (.ext 2 (.t 8)),
  (mt 5 11),
  (mt 6 12),
  (mt 7 13)]
abbrev HP:List AO:=
 [(mt 14 7),o1 15 (.bin .neq (.t 14) (ci 0))]
abbrev HO:List AO:=
 [(mt 16 6),
  (mt 17 7),o1 2 (.mv (.c .sl0)),
  (mt 3 16),
  (mt 4 17)]
abbrev HN:List AO:=
 [(mt 18 0),
  (mt 19 5),
  (mt 20 0),o1 21 (.len (.t 20)),
  (o2 22 84 [.t 18,.t 19,(ci 0),.t 21]),
  (mt 2 22),o1 3 (.mv (ci 0)),o1 4 (.mv (ci 0))]
abbrev zA:AF:=⟨23,(.seq (.reg HS) (.seq (.reg HQ) (.seq (.seq (.reg HP) (.cond (.t 15) (.seq (.reg HO) .ret) .skip)) (.seq (.reg HN) .ret)))),[.mv (.t 2),.mv (.t 3),.mv (.t 4)]⟩
theorem qW:av Tryz.prog (aa Tryz.prog 57) 57=some zA:=by kernel_rfl
/-! compactorref21.few-/
abbrev HM:List AO:=
 [o1 2 (.mv (ci 0))]
abbrev HL:List AO:=
 [(mt 3 0),⟨some 4,none,.mo (.mi (.t 3) (ci 281474976710657))⟩,
  (mt 2 4)]
abbrev zz:AF:=⟨5,(.seq (.reg HM) (.seq (.reg HL) .ret)),[.mv (.t 2)]⟩
theorem qV:av Tryz.prog (aa Tryz.prog 58) 58=some zz:=by kernel_rfl
/-! compactorref21.times-/
abbrev HK:List AO:=
 [o1 4 (.mv (ci 0))]
abbrev HJ:List AO:=
 [(mt 5 1),o1 6 (.bin .gtr (.t 5) (ci 0)),
  (mt 7 6),
  (o5 8 7 (.mv (.t 0))),
  (o5 9 7 (.mv (.t 1))),
  (o5 10 7 (.bin .quo (ci 281474976710657) (.t 9))),
  (o5 11 7 (.bin .gtr (.t 8) (.t 10))),o1 12 (.pick (.t 7) (.t 11) (.c (.b false)))]
abbrev HG:List AO:=
 [o1 4 (.mv (ci 281474976710657))]
abbrev HE:List AO:=
 [(mt 13 0),
  (mt 14 1),o1 15 (.bin .mul (.t 13) (.t 14)),
  (o2 16 58 [.t 15]),
  (mt 4 16)]
abbrev zy:AF:=⟨17,(.seq (.reg HK) (.seq (.seq (.reg HJ) (.cond (.t 12) (.seq (.reg HG) .ret) .skip)) (.seq (.reg HE) .ret))),[.mv (.t 4)]⟩
theorem qU:av Tryz.prog (aa Tryz.prog 59) 59=some zy:=by kernel_rfl
/-! compactorref21.most-/
abbrev HA:List AO:=
 [o1 2 (.bx 44 0 (.t 0)),o1 4 (.mv (ci 0))]
abbrev Hz:List AO:=
 [o1 5 (.mv (ci 0))]
abbrev Hy:List AO:=
 [(mt 6 5),o1 7 (.fa 3 (.t 2)),o1 8 (.ld 1 false (.t 7)),o1 9 (.len (.t 8)),o1 10 (.bin .lss (.t 6) (.t 9))]
abbrev Hx:List AO:=
 [o1 13 (.fa 3 (.t 2)),o1 14 (.ld 1 false (.t 13)),
  (mt 15 5),o1 16 (.ia 3 (.t 14) (.t 15)),o1 17 (.fa 0 (.t 16)),o1 18 (.ld 1 false (.t 17)),
  (mt 19 1),o1 20 (.bin .eql (.t 18) (.t 19))]
abbrev Hw:List AO:=
 [o1 21 (.fa 3 (.t 2)),o1 22 (.ld 1 false (.t 21)),
  (mt 23 5),o1 24 (.ia 3 (.t 22) (.t 23)),o1 25 (.fa 1 (.t 24)),o1 26 (.ld 1 false (.t 25)),
  (mt 4 26)]
abbrev HC:AC:=
 (.seq (.reg Hx) (.cond (.t 20) (.seq (.reg Hw) .ret) .skip))
abbrev Hv:List AO:=
 [(mt 11 5),o1 12 (.bin .add (.t 11) (ci 1)),
  (mt 5 12)]
abbrev HD:AC:=
 (.seq (.seq (.reg Hy) (.cond (.t 10) .skip (.exit 0))) (.seq (.block 1 HC) (.reg Hv)))
abbrev HB:AC:=
 (.loop HD)
abbrev Hu:List AO:=
 [o1 4 (.mv (ci 0))]
abbrev zx:AF:=⟨27,(.seq (.reg HA) (.seq (.seq (.reg Hz) (.block 0 HB)) (.seq (.reg Hu) .ret))),[.mv (.t 4)]⟩
theorem qT:av Tryz.prog (aa Tryz.prog 60) 60=some zx:=by kernel_rfl
/-! verifier.widening$1-/
abbrev Hs:List AO:=
 [o1 6 (.mv (.c .sl0)),o1 7 (.mv (ci 0))]
abbrev Hr:List AO:=
 [(mt 8 2),
  (mt 9 1),
  (mt 6 8),
  (mt 7 9)]
abbrev zw:AF:=⟨10,(.seq (.reg Hs) (.seq (.reg Hr) .ret)),[.mv (.t 6),.mv (.t 7)]⟩
theorem Ht:av Tryz.prog (aa Tryz.prog 67) 67=some zw:=by kernel_rfl
/-! compactorref18.partners-/
abbrev Hq:List AO:=
 [o1 2 (.mv (.c .sl0)),o1 3 (.mv (ci 0)),o1 4 (.mv (ci 0))]
abbrev Hp:List AO:=
 [(mt 10 0),o1 11 (.len (.t 10)),o1 12 (.bin .gtr (.t 11) (ci 1024))]
abbrev Ho:List AO:=
 [o1 2 (.mv (.c .sl0)),o1 3 (.mv (ci 0)),o1 4 (.mv (ci 6))]
abbrev Hn:List AO:=
 [(mt 13 0),o1 14 (.len (.t 13)),o1 15 (.ms 3 1 8 [.n .i64 0] (.t 14) (.t 14)),
  (mt 5 15)]
abbrev Hm:List AO:=
 [o1 6 (.mv (.c .sl0)),o1 7 (.mv (.c .sl0))]
abbrev Hl:List AO:=
 [o1 8 (.mv (ci 0))]
abbrev Hk:List AO:=
 [(mt 16 8),
  (mt 17 0),o1 18 (.len (.t 17)),o1 19 (.bin .lss (.t 16) (.t 18))]
abbrev Hj:List AO:=
 [(mt 22 5),
  (mt 23 8),o1 24 (.ia 1 (.t 22) (.t 23)),
  (o3 (.st 1 (.t 24) (.c (.n .i64 (-1)))))]
abbrev Hi:List AO:=
 [(mt 25 6),o1 26 (.len (.t 25)),
  (mt 9 26)]
abbrev Hh:List AO:=
 [(mt 27 0),
  (mt 28 8),o1 29 (.ia 2 (.t 27) (.t 28)),o1 30 (.fa 0 (.t 29)),o1 31 (.ld 1 false (.t 30))]
abbrev vh:List AO:=
 [o1 33 (.bin .eql (.t 31) (ci 27)),
  (mt 32 33)]
abbrev vg:List AO:=
 [o1 34 (.bin .eql (.t 31) (ci 29)),
  (mt 32 34)]
abbrev vf:List AO:=
 [(mt 35 9),o1 36 (.bin .eql (.t 35) (ci 8))]
abbrev ve:List AO:=
 [(mt 37 8),o1 2 (.mv (.c .sl0)),
  (mt 3 37),o1 4 (.mv (ci 15))]
abbrev vd:List AO:=
 [(mt 38 6),
  (mt 39 8),o1 40 (.bs 3 1 1 [.n .i64 0] [(0,1,(.t 39))]),o1 41 (.app 3 1 8 (.t 38) (.t 40)),
  (mt 42 7),o1 43 (.bs 3 1 1 [.n .i64 0] [(0,1,(.c (.n .i64 (-1))))]),o1 44 (.app 3 1 8 (.t 42) (.t 43)),
  (mt 6 41),
  (mt 7 44)]
abbrev vc:List AO:=
 [o1 46 (.bin .eql (.t 31) (ci 28)),
  (mt 45 46)]
abbrev u9:List AO:=
 [(mt 47 9),o1 48 (.bin .eql (.t 47) (ci 0)),
  (mt 49 48),
  (o4 50 49 (.mv (.t 0))),
  (o4 51 49 (.mv (.t 6))),
  (o4 52 49 (.mv (.t 9))),
  (o4 53 49 (.bin .sub (.t 52) (ci 1))),
  (o4 54 49 (.ia 1 (.t 51) (.t 53))),
  (o4 55 49 (.ld 1 false (.t 54))),
  (o4 56 49 (.ia 2 (.t 50) (.t 55))),
  (o4 57 49 (.fa 0 (.t 56))),
  (o4 58 49 (.ld 1 false (.t 57))),
  (o4 59 49 (.bin .neq (.t 58) (ci 27))),o1 60 (.pick (.t 49) (.c (.b true)) (.t 59)),
  (mt 61 60),
  (o4 62 61 (.mv (.t 7))),
  (o4 63 61 (.mv (.t 9))),
  (o4 64 61 (.bin .sub (.t 63) (ci 1))),
  (o4 65 61 (.ia 1 (.t 62) (.t 64))),
  (o4 66 61 (.ld 1 false (.t 65))),
  (o4 67 61 (.bin .geq (.t 66) (ci 0))),o1 68 (.pick (.t 61) (.c (.b true)) (.t 67))]
abbrev u7:List AO:=
 [(mt 69 8),o1 2 (.mv (.c .sl0)),
  (mt 3 69),o1 4 (.mv (ci 15))]
abbrev u6:List AO:=
 [(mt 70 7),
  (mt 71 9),o1 72 (.bin .sub (.t 71) (ci 1)),
  (mt 73 8),o1 74 (.ia 1 (.t 70) (.t 72)),
  (o3 (.st 1 (.t 74) (.t 73)))]
abbrev u5:List AO:=
 [(mt 75 5),
  (mt 76 6),
  (mt 77 9),o1 78 (.bin .sub (.t 77) (ci 1)),o1 79 (.ia 1 (.t 76) (.t 78)),o1 80 (.ld 1 false (.t 79)),
  (mt 81 8),o1 82 (.ia 1 (.t 75) (.t 80)),
  (o3 (.st 1 (.t 82) (.t 81)))]
abbrev u4:List AO:=
 [o1 84 (.bin .eql (.t 31) (ci 30)),
  (mt 83 84)]
abbrev u3:List AO:=
 [(mt 85 0),
  (mt 86 6),
  (o2 87 100 [.t 85,.t 86]),o1 88 (.bin .lss (.t 87) (ci 0))]
abbrev uZ:List AO:=
 [(mt 89 8),o1 2 (.mv (.c .sl0)),
  (mt 3 89),o1 4 (.mv (ci 15))]
abbrev uY:List AO:=
 [o1 91 (.bin .eql (.t 31) (ci 31)),
  (mt 90 91)]
abbrev uX:List AO:=
 [(mt 92 9),o1 93 (.bin .eql (.t 92) (ci 0))]
abbrev uW:List AO:=
 [(mt 94 8),o1 2 (.mv (.c .sl0)),
  (mt 3 94),o1 4 (.mv (ci 15))]
abbrev uV:List AO:=
 [(mt 95 5),
  (mt 96 8),
  (mt 97 6),
  (mt 98 9),o1 99 (.bin .sub (.t 98) (ci 1)),o1 100 (.ia 1 (.t 97) (.t 99)),o1 101 (.ld 1 false (.t 100)),o1 102 (.ia 1 (.t 95) (.t 96)),
  (o3 (.st 1 (.t 102) (.t 101)))]
abbrev uU:List AO:=
 [(mt 103 7),
  (mt 104 9),o1 105 (.bin .sub (.t 104) (ci 1)),o1 106 (.ia 1 (.t 103) (.t 105)),o1 107 (.ld 1 false (.t 106)),o1 108 (.bin .geq (.t 107) (ci 0))]
abbrev uT:List AO:=
 [(mt 109 5),
  (mt 110 7),
  (mt 111 9),o1 112 (.bin .sub (.t 111) (ci 1)),o1 113 (.ia 1 (.t 110) (.t 112)),o1 114 (.ld 1 false (.t 113)),
  (mt 115 8),o1 116 (.ia 1 (.t 109) (.t 114)),
  (o3 (.st 1 (.t 116) (.t 115)))]
abbrev uS:List AO:=
 [(mt 117 5),
  (mt 118 6),
  (mt 119 9),o1 120 (.bin .sub (.t 119) (ci 1)),o1 121 (.ia 1 (.t 118) (.t 120)),o1 122 (.ld 1 false (.t 121)),
  (mt 123 8),o1 124 (.ia 1 (.t 117) (.t 122)),
  (o3 (.st 1 (.t 124) (.t 123)))]
abbrev vi:List (Nat×AO):=
 [(2,(mt 125 6)),
  (2,(mt 126 9)),(2,(o1 127 (.bin .sub (.t 126) (ci 1)))),(2,(o1 128 (.sl 1 (.t 125) none (some (.t 127))))),
  (2,(mt 129 7)),
  (2,(mt 130 9)),(2,(o1 131 (.bin .sub (.t 130) (ci 1)))),(2,(o1 132 (.sl 1 (.t 129) none (some (.t 131))))),
  (2,(mt 6 128)),
  (2,(mt 7 132))]
abbrev vl:AC:=
 (.seq (.seq (.reg vh) (.cond (.t 32) .skip (.reg vg))) (.cond (.t 32) (.seq (.seq (.reg vf) (.cond (.t 36) (.seq (.reg ve) .ret) .skip)) (.reg vd)) (.seq (.reg vc) (.cond (.t 45) (.seq (.seq (.reg u9) (.cond (.t 68) (.seq (.reg u7) .ret) .skip)) (.seq (.reg u6) (.reg u5))) (.seq (.reg u4) (.cond (.t 83) (.seq (.reg u3) (.cond (.t 88) (.seq (.reg uZ) .ret) .skip)) (.seq (.reg uY) (.cond (.t 90) (.seq (.seq (.reg uX) (.cond (.t 93) (.seq (.reg uW) .ret) .skip)) (.seq (.reg uV) (.seq (.seq (.reg uU) (.cond (.t 108) (.reg uT) (.reg uS))) (.mix vi)))) .skip))))))))
abbrev vk:AC:=
 (.seq (.reg Hj) (.seq (.reg Hi) (.seq (.reg Hh) (.block 2 vl))))
abbrev uR:List AO:=
 [(mt 20 8),o1 21 (.bin .add (.t 20) (ci 1)),
  (mt 8 21)]
abbrev vm:AC:=
 (.seq (.seq (.reg Hk) (.cond (.t 19) .skip (.exit 0))) (.seq (.block 1 vk) (.reg uR)))
abbrev vj:AC:=
 (.loop vm)
abbrev uQ:List AO:=
 [(mt 133 6),o1 134 (.len (.t 133)),o1 135 (.bin .gtr (.t 134) (ci 0))]
abbrev uP:List AO:=
 [(mt 136 0),o1 137 (.len (.t 136)),o1 2 (.mv (.c .sl0)),
  (mt 3 137),o1 4 (.mv (ci 15))]
abbrev uO:List AO:=
 [(mt 138 0),
  (mt 139 5),
  (o2 140 101 [.t 138,.t 139]),
  (mt 2 140),o1 3 (.mv (ci 0)),o1 4 (.mv (ci 0))]
abbrev zv:AF:=⟨141,(.seq (.reg Hq) (.seq (.seq (.reg Hp) (.cond (.t 12) (.seq (.reg Ho) .ret) .skip)) (.seq (.reg Hn) (.seq (.reg Hm) (.seq (.seq (.reg Hl) (.block 0 vj)) (.seq (.seq (.reg uQ) (.cond (.t 135) (.seq (.reg uP) .ret) .skip)) (.seq (.reg uO) .ret))))))),[.mv (.t 2),.mv (.t 3),.mv (.t 4)]⟩
theorem qS:av Tryz.prog (aa Tryz.prog 83) 83=some zv:=by kernel_rfl
/-! compactorref18.tree-/
abbrev He:List AO:=
 [o1 8 (.mv (.c .sl0))]
abbrev Hd:List AO:=
 [o1 9 (.mv (.c .sl0))]
abbrev Hb:List AO:=
 [(mt 14 2),
  (mt 10 14)]
abbrev G9:List AO:=
 [(mt 15 10),
  (mt 16 3),o1 17 (.bin .lss (.t 15) (.t 16))]
abbrev G8:List AO:=
 [(mt 18 0),
  (mt 19 10),o1 20 (.ia 2 (.t 18) (.t 19)),o1 21 (.fa 0 (.t 20)),o1 22 (.ld 1 false (.t 21)),o1 23 (.bin .neq (.t 22) (ci 27)),
  (mt 24 23),
  (o5 25 24 (.mv (.t 0))),
  (o5 26 24 (.mv (.t 10))),
  (o5 27 24 (.ia 2 (.t 25) (.t 26))),
  (o5 28 24 (.fa 0 (.t 27))),
  (o5 29 24 (.ld 1 false (.t 28))),
  (o5 30 24 (.bin .neq (.t 29) (ci 29))),o1 31 (.pick (.t 24) (.t 30) (.c (.b false)))]
abbrev G7:List AO:=
 [(mt 32 10),
  (mt 11 32)]
abbrev G0:List AO:=
 [(mt 33 11),
  (mt 34 3),o1 35 (.bin .lss (.t 33) (.t 34)),
  (mt 36 35),
  (o5 37 36 (.mv (.t 0))),
  (o5 38 36 (.mv (.t 11))),
  (o5 39 36 (.ia 2 (.t 37) (.t 38))),
  (o5 40 36 (.fa 0 (.t 39))),
  (o5 41 36 (.ld 1 false (.t 40))),
  (o5 42 36 (.bin .neq (.t 41) (ci 27))),o1 43 (.pick (.t 36) (.t 42) (.c (.b false))),
  (mt 44 43),
  (o5 45 44 (.mv (.t 0))),
  (o5 46 44 (.mv (.t 11))),
  (o5 47 44 (.ia 2 (.t 45) (.t 46))),
  (o5 48 44 (.fa 0 (.t 47))),
  (o5 49 44 (.ld 1 false (.t 48))),
  (o5 50 44 (.bin .neq (.t 49) (ci 29))),o1 51 (.pick (.t 44) (.t 50) (.c (.b false)))]
abbrev GZ:List AO:=
 [(mt 52 11),o1 53 (.bin .add (.t 52) (ci 1)),
  (mt 11 53)]
abbrev Hf:AC:=
 (.reg GZ)
abbrev Hg:AC:=
 (.seq (.seq (.reg G0) (.cond (.t 51) .skip (.exit 2))) (.block 3 Hf))
abbrev uM:AC:=
 (.loop Hg)
abbrev uJ:List AO:=
 [(mt 54 9),
  (mt 55 10),
  (mt 56 11),o1 57 (.bd [.n .i64 0,.n .i64 0,.n .i64 0,.sl0,.sl0] [(0,1,(.c (.n .i64 (-1)))),(1,1,(.t 55)),(2,1,(.t 56))]),o1 58 (.bs 106 5 1 [.n .i64 0,.n .i64 0,.n .i64 0,.sl0,.sl0] [(0,5,(.t 57))]),o1 59 (.app 106 5 72 (.t 54) (.t 58)),
  (mt 9 59)]
abbrev uI:List AO:=
 [(mt 60 11),
  (mt 10 60)]
abbrev uH:List AO:=
 [(mt 61 0),
  (mt 62 10),o1 63 (.ia 2 (.t 61) (.t 62)),o1 64 (.fa 0 (.t 63)),o1 65 (.ld 1 false (.t 64)),
  (mt 66 10),o1 67 (.bd [.n .i64 0,.n .i64 0,.n .i64 0,.sl0,.sl0] [(0,1,(.t 65)),(1,1,(.t 66))]),o1 12 (.al 106 [.n .i64 0,.n .i64 0,.n .i64 0,.sl0,.sl0]),
  (o3 (.st 5 (.t 12) (.t 67)))]
abbrev uG:List AO:=
 [(mt 68 1),
  (mt 69 10),o1 70 (.ia 1 (.t 68) (.t 69)),o1 71 (.ld 1 false (.t 70)),
  (mt 13 71)]
abbrev uF:List AO:=
 [(mt 72 0),
  (mt 73 1),
  (mt 74 10),o1 75 (.bin .add (.t 74) (ci 1)),
  (mt 76 13),
  (o2 77 84 [.t 72,.t 73,.t 75,.t 76]),o1 78 (.fa 3 (.t 12)),
  (o3 (.st 1 (.t 78) (.t 77)))]
abbrev uE:List AO:=
 [(mt 79 13),o1 80 (.bin .add (.t 79) (ci 1)),o1 81 (.fa 2 (.t 12)),
  (o3 (.st 1 (.t 81) (.t 80)))]
abbrev uD:List AO:=
 [(mt 82 0),
  (mt 83 13),o1 84 (.ia 2 (.t 82) (.t 83)),o1 85 (.fa 0 (.t 84)),o1 86 (.ld 1 false (.t 85)),o1 87 (.bin .eql (.t 86) (ci 28))]
abbrev uC:List AO:=
 [(mt 88 0),
  (mt 89 1),
  (mt 90 13),o1 91 (.bin .add (.t 90) (ci 1)),
  (mt 92 1),
  (mt 93 13),o1 94 (.ia 1 (.t 92) (.t 93)),o1 95 (.ld 1 false (.t 94)),
  (o2 96 84 [.t 88,.t 89,.t 91,.t 95]),o1 97 (.fa 4 (.t 12)),
  (o3 (.st 1 (.t 97) (.t 96)))]
abbrev uB:List AO:=
 [(mt 98 1),
  (mt 99 13),o1 100 (.ia 1 (.t 98) (.t 99)),o1 101 (.ld 1 false (.t 100)),o1 102 (.bin .add (.t 101) (ci 1)),o1 103 (.fa 2 (.t 12)),
  (o3 (.st 1 (.t 103) (.t 102)))]
abbrev uA:List AO:=
 [(mt 104 9),o1 105 (.ld 5 true (.t 12)),o1 106 (.bs 106 5 1 [.n .i64 0,.n .i64 0,.n .i64 0,.sl0,.sl0] [(0,5,(.t 105))]),o1 107 (.app 106 5 72 (.t 104) (.t 106)),
  (mt 9 107)]
abbrev uz:List AO:=
 [o1 108 (.fa 2 (.t 12)),o1 109 (.ld 1 false (.t 108)),
  (mt 10 109)]
abbrev uL:AC:=
 (.seq (.seq (.reg G8) (.cond (.t 31) (.seq (.reg G7) (.seq (.block 2 uM) (.seq (.reg uJ) (.seq (.reg uI) (.exit 1))))) .skip)) (.seq (.reg uH) (.seq (.reg uG) (.seq (.reg uF) (.seq (.reg uE) (.seq (.seq (.reg uD) (.cond (.t 87) (.seq (.reg uC) (.reg uB)) .skip)) (.seq (.reg uA) (.reg uz))))))))
abbrev uN:AC:=
 (.seq (.seq (.reg G9) (.cond (.t 17) .skip (.exit 0))) (.block 1 uL))
abbrev uK:AC:=
 (.loop uN)
abbrev uy:List AO:=
 [(mt 110 9),
  (mt 8 110)]
abbrev zt:AF:=⟨111,(.seq (.reg He) (.seq (.reg Hd) (.seq (.reg Hb) (.seq (.block 0 uK) (.seq (.reg uy) .ret))))),[.mv (.t 8)]⟩
theorem qR:av Tryz.prog (aa Tryz.prog 84) 84=some zt:=by kernel_rfl
/-! instruction.operations$1-/
abbrev GX:List AO:=
 [o1 2 (.al 96 [.s ⟨#[]⟩,.s ⟨#[]⟩,.s ⟨#[]⟩,.n .u64 0,.b false])]
abbrev GV:List AO:=
 [(mt 3 0),o1 4 (.bd [.s ⟨#[]⟩,.s ⟨#[]⟩,.s ⟨#[]⟩,.n .u64 0,.b false] [(0,1,(.t 3)),(1,1,(.c (.s ⟨#[110,110]⟩))),(2,1,(.c (.s ⟨#[110]⟩))),(3,1,(.c (.n .u64 1))),(4,1,(.c (.b false)))]),
  (o3 (.st 5 (.t 2) (.t 4)))]
abbrev zs:AF:=⟨5,(.seq (.reg GX) (.seq (.reg GV) .ret)),[.ld 5 true (.t 2)]⟩
theorem GY:av Tryz.prog (aa Tryz.prog 95) 95=some zs:=by kernel_rfl
/-! instruction.operations$2-/
abbrev GR:List AO:=
 [o1 6 (.al 96 [.s ⟨#[]⟩,.s ⟨#[]⟩,.s ⟨#[]⟩,.n .u64 0,.b false])]
abbrev GQ:List AO:=
 [(mt 7 0),
  (mt 8 1),
  (mt 9 2),o1 10 (.bd [.s ⟨#[]⟩,.s ⟨#[]⟩,.s ⟨#[]⟩,.n .u64 0,.b false] [(0,1,(.t 7)),(1,1,(.t 8)),(2,1,(.t 9)),(3,1,(.c (.n .u64 1))),(4,1,(.c (.b false)))]),
  (o3 (.st 5 (.t 6) (.t 10)))]
abbrev zr:AF:=⟨11,(.seq (.reg GR) (.seq (.reg GQ) .ret)),[.ld 5 true (.t 6)]⟩
theorem GU:av Tryz.prog (aa Tryz.prog 96) 96=some zr:=by kernel_rfl
/-! compactorref18.innermost-/
abbrev GM:List AO:=
 [o1 4 (.mv (ci 0))]
abbrev GL:List AO:=
 [(mt 6 1),o1 7 (.len (.t 6)),o1 8 (.bin .sub (.t 7) (ci 1)),
  (mt 5 8)]
abbrev GK:List AO:=
 [(mt 9 5),o1 10 (.bin .geq (.t 9) (ci 0))]
abbrev GJ:List AO:=
 [(mt 13 0),
  (mt 14 1),
  (mt 15 5),o1 16 (.ia 1 (.t 14) (.t 15)),o1 17 (.ld 1 false (.t 16)),o1 18 (.ia 2 (.t 13) (.t 17)),o1 19 (.fa 0 (.t 18)),o1 20 (.ld 1 false (.t 19)),o1 21 (.bin .eql (.t 20) (ci 29))]
abbrev GI:List AO:=
 [(mt 22 1),
  (mt 23 5),o1 24 (.ia 1 (.t 22) (.t 23)),o1 25 (.ld 1 false (.t 24)),
  (mt 4 25)]
abbrev GO:AC:=
 (.seq (.reg GJ) (.cond (.t 21) (.seq (.reg GI) .ret) .skip))
abbrev GH:List AO:=
 [(mt 11 5),o1 12 (.bin .sub (.t 11) (ci 1)),
  (mt 5 12)]
abbrev GP:AC:=
 (.seq (.seq (.reg GK) (.cond (.t 10) .skip (.exit 0))) (.seq (.block 1 GO) (.reg GH)))
abbrev GN:AC:=
 (.loop GP)
abbrev GG:List AO:=
 [o1 4 (.mv (.c (.n .i64 (-1))))]
abbrev zq:AF:=⟨26,(.seq (.reg GM) (.seq (.seq (.reg GL) (.block 0 GN)) (.seq (.reg GG) .ret))),[.mv (.t 4)]⟩
theorem qQ:av Tryz.prog (aa Tryz.prog 100) 100=some zq:=by kernel_rfl
/-! compactorref18.leaves-/
abbrev GF:List AO:=
 [o1 4 (.mv (.c .sl0))]
abbrev GD:List AO:=
 [o1 5 (.mv (.c .sl0))]
abbrev GC:List AO:=
 [o1 6 (.mv (ci 0))]
abbrev GB:List AO:=
 [(mt 7 6),
  (mt 8 0),o1 9 (.len (.t 8)),o1 10 (.bin .lss (.t 7) (.t 9))]
abbrev Gz:List AO:=
 [(mt 14 0),
  (mt 15 6),o1 16 (.ia 2 (.t 14) (.t 15)),o1 17 (.fa 0 (.t 16)),o1 18 (.ld 1 false (.t 17)),o1 19 (.bin .eql (.t 18) (ci 29)),
  (mt 13 19)]
abbrev Gy:List AO:=
 [(mt 20 5),
  (mt 21 6),o1 22 (.bs 3 1 1 [.n .i64 0] [(0,1,(.t 21))]),o1 23 (.app 3 1 8 (.t 20) (.t 22)),
  (mt 5 23)]
abbrev Gx:List AO:=
 [(mt 25 0),
  (mt 26 6),o1 27 (.ia 2 (.t 25) (.t 26)),o1 28 (.fa 0 (.t 27)),o1 29 (.ld 1 false (.t 28)),o1 30 (.bin .eql (.t 29) (ci 31)),
  (mt 31 30),
  (o5 32 31 (.mv (.t 0))),
  (o5 33 31 (.mv (.t 1))),
  (o5 34 31 (.mv (.t 6))),
  (o5 35 31 (.ia 1 (.t 33) (.t 34))),
  (o5 36 31 (.ld 1 false (.t 35))),
  (o5 37 31 (.ia 2 (.t 32) (.t 36))),
  (o5 38 31 (.fa 0 (.t 37))),
  (o5 39 31 (.ld 1 false (.t 38))),
  (o5 40 31 (.bin .eql (.t 39) (ci 29))),o1 41 (.pick (.t 31) (.t 40) (.c (.b false))),
  (mt 24 41)]
abbrev Gw:List AO:=
 [(mt 42 5),
  (mt 43 5),o1 44 (.len (.t 43)),o1 45 (.bin .sub (.t 44) (ci 1)),o1 46 (.sl 1 (.t 42) none (some (.t 45))),
  (mt 5 46)]
abbrev Gv:List AO:=
 [(mt 48 0),
  (mt 49 6),o1 50 (.ia 2 (.t 48) (.t 49)),o1 51 (.fa 0 (.t 50)),o1 52 (.ld 1 false (.t 51)),o1 53 (.bin .eql (.t 52) (ci 30)),
  (mt 47 53)]
abbrev Gu:List AO:=
 [(mt 54 1),
  (mt 55 6),
  (mt 56 1),
  (mt 57 5),
  (mt 58 5),o1 59 (.len (.t 58)),o1 60 (.bin .sub (.t 59) (ci 1)),o1 61 (.ia 1 (.t 57) (.t 60)),o1 62 (.ld 1 false (.t 61)),o1 63 (.ia 1 (.t 56) (.t 62)),o1 64 (.ld 1 false (.t 63)),o1 65 (.ia 1 (.t 54) (.t 55)),
  (o3 (.st 1 (.t 65) (.t 64)))]
abbrev uw:AC:=
 (.seq (.reg Gz) (.cond (.t 13) (.reg Gy) (.seq (.reg Gx) (.cond (.t 24) (.reg Gw) (.seq (.reg Gv) (.cond (.t 47) (.reg Gu) .skip))))))
abbrev uv:AC:=
 (.block 2 uw)
abbrev ut:List AO:=
 [(mt 11 6),o1 12 (.bin .add (.t 11) (ci 1)),
  (mt 6 12)]
abbrev ux:AC:=
 (.seq (.seq (.reg GB) (.cond (.t 10) .skip (.exit 0))) (.seq (.block 1 uv) (.reg ut)))
abbrev uu:AC:=
 (.loop ux)
abbrev ur:List AO:=
 [(mt 66 1),
  (mt 4 66)]
abbrev zp:AF:=⟨67,(.seq (.reg GF) (.seq (.reg GD) (.seq (.seq (.reg GC) (.block 0 uu)) (.seq (.reg ur) .ret)))),[.mv (.t 4)]⟩
theorem qP:av Tryz.prog (aa Tryz.prog 101) 101=some zp:=by kernel_rfl
/-! interval.Within-/
abbrev Gr:List AO:=
 [o1 2 (.bx 123 0 (.t 0)),o1 3 (.bx 123 0 (.t 1)),o1 4 (.mv (.c (.b false)))]
abbrev Gq:List AO:=
 [o1 5 (.ld 2 true (.t 2)),o1 6 (.ld 2 true (.t 3)),
  (o2 7 92 [.t 5,.t 6]),
  (mt 8 7),
  (o5 9 8 (.fa 0 (.t 3))),
  (o5 10 8 (.ld 1 false (.t 9))),
  (o5 11 8 (.fa 0 (.t 2))),
  (o5 12 8 (.ld 1 false (.t 11))),
  (o5 13 8 (.bin .leq (.t 10) (.t 12))),o1 14 (.pick (.t 8) (.t 13) (.c (.b false))),
  (mt 15 14),
  (o5 16 15 (.fa 1 (.t 2))),
  (o5 17 15 (.ld 1 false (.t 16))),
  (o5 18 15 (.fa 1 (.t 3))),
  (o5 19 15 (.ld 1 false (.t 18))),
  (o5 20 15 (.bin .leq (.t 17) (.t 19))),o1 21 (.pick (.t 15) (.t 20) (.c (.b false))),
  (mt 4 21)]
abbrev zn:AF:=⟨22,(.seq (.reg Gr) (.seq (.reg Gq) .ret)),[.mv (.t 4)]⟩
theorem Gs:av Tryz.prog (aa Tryz.prog 118) 118=some zn:=by kernel_rfl
/-! interval.operands.add-/
abbrev Gn:List AO:=
 [o1 1 (.bx 202 0 (.t 0)),o1 2 (.al 123 [.n .i64 0,.n .i64 0])]
abbrev Gm:List AO:=
 [o1 3 (.fa 0 (.t 1)),o1 4 (.ld 1 false (.t 3)),o1 5 (.fa 2 (.t 1)),o1 6 (.ld 1 false (.t 5)),o1 7 (.bin .add (.t 4) (.t 6)),o1 8 (.fa 1 (.t 1)),o1 9 (.ld 1 false (.t 8)),o1 10 (.fa 3 (.t 1)),o1 11 (.ld 1 false (.t 10)),o1 12 (.bin .add (.t 9) (.t 11)),
  (o2 13 138 [.t 7,.t 12]),
  (o3 (.st 2 (.t 2) (.t 13)))]
abbrev zm:AF:=⟨14,(.seq (.reg Gn) (.seq (.reg Gm) .ret)),[.ld 2 true (.t 2)]⟩
theorem Gp:av Tryz.prog (aa Tryz.prog 124) 124=some zm:=by kernel_rfl
/-! interval.operands.sub-/
abbrev Gk:List AO:=
 [o1 1 (.bx 202 0 (.t 0)),o1 2 (.al 123 [.n .i64 0,.n .i64 0])]
abbrev Gj:List AO:=
 [o1 3 (.fa 0 (.t 1)),o1 4 (.ld 1 false (.t 3)),o1 5 (.fa 3 (.t 1)),o1 6 (.ld 1 false (.t 5)),o1 7 (.bin .sub (.t 4) (.t 6)),o1 8 (.fa 1 (.t 1)),o1 9 (.ld 1 false (.t 8)),o1 10 (.fa 2 (.t 1)),o1 11 (.ld 1 false (.t 10)),o1 12 (.bin .sub (.t 9) (.t 11)),
  (o2 13 138 [.t 7,.t 12]),
  (o3 (.st 2 (.t 2) (.t 13)))]
abbrev zl:AF:=⟨14,(.seq (.reg Gk) (.seq (.reg Gj) .ret)),[.ld 2 true (.t 2)]⟩
theorem Gl:av Tryz.prog (aa Tryz.prog 125) 125=some zl:=by kernel_rfl
/-! interval.operands.mul-/
abbrev Gg:List AO:=
 [o1 1 (.bx 202 0 (.t 0)),o1 2 (.al 123 [.n .i64 0,.n .i64 0])]
abbrev Gi:List (Nat×AO):=
 [(2,(o1 3 (.fa 3 (.t 1)))),(1,(o1 4 (.ld 1 false (.t 3)))),(2,(o1 5 (.bin .gtr (.t 4) (ci 0)))),
  (2,(mt 6 5)),
  (2,(o5 7 6 (.fa 1 (.t 1)))),
  (2,(o5 9 6 (.fa 3 (.t 1)))),
  (1,(o5 8 6 (.ld 1 false (.t 7)))),
  (1,(o5 10 6 (.ld 1 false (.t 9)))),
  (2,(o5 11 6 (.bin .quo (ci 4294967295) (.t 10)))),
  (2,(o5 12 6 (.bin .gtr (.t 8) (.t 11)))),(2,(o1 13 (.pick (.t 6) (.t 12) (.c (.b false)))))]
abbrev Gf:List AO:=
 [(o2 14 73 []),
  (o3 (.st 2 (.t 2) (.t 14)))]
abbrev Gd:List AO:=
 [o1 15 (.fa 0 (.t 1)),o1 16 (.ld 1 false (.t 15)),o1 17 (.fa 2 (.t 1)),o1 18 (.ld 1 false (.t 17)),o1 19 (.bin .mul (.t 16) (.t 18)),o1 20 (.fa 1 (.t 1)),o1 21 (.ld 1 false (.t 20)),o1 22 (.fa 3 (.t 1)),o1 23 (.ld 1 false (.t 22)),o1 24 (.bin .mul (.t 21) (.t 23)),o1 25 (.bd [.n .i64 0,.n .i64 0] [(0,1,(.t 19)),(1,1,(.t 24))]),
  (o3 (.st 2 (.t 2) (.t 25)))]
abbrev zk:AF:=⟨26,(.seq (.reg Gg) (.seq (.seq (.mix Gi) (.cond (.t 13) (.seq (.reg Gf) .ret) .skip)) (.seq (.reg Gd) .ret))),[.ld 2 true (.t 2)]⟩
theorem Gh:av Tryz.prog (aa Tryz.prog 126) 126=some zk:=by kernel_rfl
/-! interval.operands.div-/
abbrev Ga:List AO:=
 [o1 1 (.bx 202 0 (.t 0)),o1 2 (.al 123 [.n .i64 0,.n .i64 0])]
abbrev Gc:List (Nat×AO):=
 [(2,(o1 3 (.fa 0 (.t 1)))),(2,(o1 5 (.fa 3 (.t 1)))),(2,(o1 8 (.fa 1 (.t 1)))),(2,(o1 10 (.fa 2 (.t 1)))),(1,(o1 4 (.ld 1 false (.t 3)))),(1,(o1 6 (.ld 1 false (.t 5)))),(2,(o1 7 (.bin .quo (.t 4) (.t 6)))),(1,(o1 9 (.ld 1 false (.t 8)))),(1,(o1 11 (.ld 1 false (.t 10)))),(2,(o1 12 (.bin .quo (.t 9) (.t 11)))),(2,(o1 13 (.bd [.n .i64 0,.n .i64 0] [(0,1,(.t 7)),(1,1,(.t 12))]))),
  (3,(o3 (.st 2 (.t 2) (.t 13))))]
abbrev zj:AF:=⟨14,(.seq (.reg Ga) (.seq (.mix Gc) .ret)),[.ld 2 true (.t 2)]⟩
theorem Gb:av Tryz.prog (aa Tryz.prog 127) 127=some zj:=by kernel_rfl
/-! interval.operands.mod-/
abbrev F8:List AO:=
 [o1 1 (.bx 202 0 (.t 0)),o1 2 (.al 123 [.n .i64 0,.n .i64 0])]
abbrev F7:List AO:=
 [o1 3 (.fa 1 (.t 1)),o1 4 (.ld 1 false (.t 3)),o1 5 (.fa 2 (.t 1)),o1 6 (.ld 1 false (.t 5)),o1 7 (.bin .lss (.t 4) (.t 6))]
abbrev F6:List AO:=
 [o1 8 (.fa 0 (.t 1)),o1 9 (.ld 1 false (.t 8)),o1 10 (.fa 1 (.t 1)),o1 11 (.ld 1 false (.t 10)),o1 12 (.bd [.n .i64 0,.n .i64 0] [(0,1,(.t 9)),(1,1,(.t 11))]),
  (o3 (.st 2 (.t 2) (.t 12)))]
abbrev F5:List AO:=
 [o1 13 (.fa 1 (.t 1)),o1 14 (.ld 1 false (.t 13)),o1 15 (.fa 3 (.t 1)),o1 16 (.ld 1 false (.t 15)),o1 17 (.bin .sub (.t 16) (ci 1)),⟨some 18,none,.mo (.mi (.t 14) (.t 17))⟩,o1 19 (.bd [.n .i64 0,.n .i64 0] [(1,1,(.t 18))]),
  (o3 (.st 2 (.t 2) (.t 19)))]
abbrev zi:AF:=⟨20,(.seq (.reg F8) (.seq (.seq (.reg F7) (.cond (.t 7) (.seq (.reg F6) .ret) .skip)) (.seq (.reg F5) .ret))),[.ld 2 true (.t 2)]⟩
theorem F9:av Tryz.prog (aa Tryz.prog 128) 128=some zi:=by kernel_rfl
/-! interval.operands.and-/
abbrev F3:List AO:=
 [o1 1 (.bx 202 0 (.t 0)),o1 2 (.al 123 [.n .i64 0,.n .i64 0])]
abbrev F2:List AO:=
 [o1 3 (.fa 1 (.t 1)),o1 4 (.ld 1 false (.t 3)),o1 5 (.fa 3 (.t 1)),o1 6 (.ld 1 false (.t 5)),⟨some 7,none,.mo (.mi (.t 4) (.t 6))⟩,o1 8 (.bd [.n .i64 0,.n .i64 0] [(1,1,(.t 7))]),
  (o3 (.st 2 (.t 2) (.t 8)))]
abbrev zh:AF:=⟨9,(.seq (.reg F3) (.seq (.reg F2) .ret)),[.ld 2 true (.t 2)]⟩
theorem F4:av Tryz.prog (aa Tryz.prog 129) 129=some zh:=by kernel_rfl
/-! interval.operands.or-/
abbrev FZ:List AO:=
 [o1 1 (.bx 202 0 (.t 0)),o1 2 (.al 123 [.n .i64 0,.n .i64 0])]
abbrev F1:List (Nat×AO):=
 [(2,(o1 3 (.fa 0 (.t 1)))),(1,(o1 4 (.ld 1 false (.t 3)))),(2,(o1 5 (.fa 2 (.t 1)))),(1,(o1 6 (.ld 1 false (.t 5)))),(2,(o1 8 (.fa 1 (.t 1)))),(1,(o1 9 (.ld 1 false (.t 8)))),(2,(o1 10 (.fa 3 (.t 1)))),(1,(o1 11 (.ld 1 false (.t 10))))]
abbrev FY:AT:=
 (.alt ⟨some 7,none,.mo (.mx (.t 4) (.t 6))⟩ (.alt ⟨some 12,none,.mo (.mx (.t 9) (.t 11))⟩ (.alt (o2 13 139 [.t 12]) (.alt (o1 14 (.bd [.n .i64 0,.n .i64 0] [(0,1,(.t 7)),(1,1,(.t 13))])) (.alt (o3 (.st 2 (.t 2) (.t 14))) .fin .none) .none) .none) .none) (.alt ⟨some 12,none,.mo (.mx (.t 9) (.t 11))⟩ (.alt ⟨some 7,none,.mo (.mx (.t 4) (.t 6))⟩ (.alt (o2 13 139 [.t 12]) (.alt (o1 14 (.bd [.n .i64 0,.n .i64 0] [(0,1,(.t 7)),(1,1,(.t 13))])) (.alt (o3 (.st 2 (.t 2) (.t 14))) .fin .none) .none) .none) (.alt (o2 13 139 [.t 12]) (.alt ⟨some 7,none,.mo (.mx (.t 4) (.t 6))⟩ (.alt (o1 14 (.bd [.n .i64 0,.n .i64 0] [(0,1,(.t 7)),(1,1,(.t 13))])) (.alt (o3 (.st 2 (.t 2) (.t 14))) .fin .none) .none) .none) .none)) .none))
abbrev zg:AF:=⟨15,(.seq (.reg FZ) (.seq (.frk F1 FY) .ret)),[.ld 2 true (.t 2)]⟩
theorem F0:av Tryz.prog (aa Tryz.prog 130) 130=some zg:=by kernel_rfl
/-! interval.operands.xor-/
abbrev FW:List AO:=
 [o1 1 (.bx 202 0 (.t 0)),o1 2 (.al 123 [.n .i64 0,.n .i64 0])]
abbrev FV:List AO:=
 [o1 3 (.fa 1 (.t 1)),o1 4 (.ld 1 false (.t 3)),o1 5 (.fa 3 (.t 1)),o1 6 (.ld 1 false (.t 5)),⟨some 7,none,.mo (.mx (.t 4) (.t 6))⟩,
  (o2 8 139 [.t 7]),o1 9 (.bd [.n .i64 0,.n .i64 0] [(1,1,(.t 8))]),
  (o3 (.st 2 (.t 2) (.t 9)))]
abbrev zf:AF:=⟨10,(.seq (.reg FW) (.seq (.reg FV) .ret)),[.ld 2 true (.t 2)]⟩
theorem FX:av Tryz.prog (aa Tryz.prog 131) 131=some zf:=by kernel_rfl
/-! interval.operands.shl-/
abbrev FR:List AO:=
 [o1 1 (.bx 202 0 (.t 0)),o1 2 (.al 123 [.n .i64 0,.n .i64 0])]
abbrev FQ:List AO:=
 [o1 4 (.fa 2 (.t 1)),o1 5 (.ld 1 false (.t 4)),o1 6 (.bin .rem (.t 5) (ci 32)),
  (mt 3 6)]
abbrev FU:List (Nat×AO):=
 [(2,(o1 7 (.fa 2 (.t 1)))),(2,(o1 9 (.fa 3 (.t 1)))),(1,(o1 8 (.ld 1 false (.t 7)))),(1,(o1 10 (.ld 1 false (.t 9)))),(2,(o1 11 (.bin .neq (.t 8) (.t 10)))),
  (2,(mt 12 11)),
  (2,(o4 13 12 (.fa 1 (.t 1)))),
  (2,(o4 15 12 (.mv (.t 3)))),
  (2,(o4 16 12 (.bin .shr (ci 4294967295) (.t 15)))),
  (1,(o4 14 12 (.ld 1 false (.t 13)))),
  (2,(o4 17 12 (.bin .gtr (.t 14) (.t 16)))),(2,(o1 18 (.pick (.t 12) (.c (.b true)) (.t 17))))]
abbrev FP:List AO:=
 [(o2 19 73 []),
  (o3 (.st 2 (.t 2) (.t 19)))]
abbrev FT:List (Nat×AO):=
 [(2,(o1 20 (.fa 0 (.t 1)))),
  (2,(mt 22 3)),(2,(o1 24 (.fa 1 (.t 1)))),
  (2,(mt 26 3)),(1,(o1 21 (.ld 1 false (.t 20)))),(2,(o1 23 (.bin .shl (.t 21) (.t 22)))),(1,(o1 25 (.ld 1 false (.t 24)))),(2,(o1 27 (.bin .shl (.t 25) (.t 26)))),(2,(o1 28 (.bd [.n .i64 0,.n .i64 0] [(0,1,(.t 23)),(1,1,(.t 27))]))),
  (3,(o3 (.st 2 (.t 2) (.t 28))))]
abbrev ze:AF:=⟨29,(.seq (.reg FR) (.seq (.reg FQ) (.seq (.seq (.mix FU) (.cond (.t 18) (.seq (.reg FP) .ret) .skip)) (.seq (.mix FT) .ret)))),[.ld 2 true (.t 2)]⟩
theorem FS:av Tryz.prog (aa Tryz.prog 132) 132=some ze:=by kernel_rfl
/-! interval.operands.shr-/
abbrev FK:List AO:=
 [o1 1 (.bx 202 0 (.t 0)),o1 2 (.al 123 [.n .i64 0,.n .i64 0])]
abbrev FJ:List AO:=
 [o1 4 (.fa 3 (.t 1)),o1 5 (.ld 1 false (.t 4)),o1 6 (.bin .leq (.t 5) (ci 31)),
  (mt 3 6)]
abbrev FN:List (Nat×AO):=
 [(2,(o1 7 (.fa 0 (.t 1)))),(2,(o1 9 (.fa 3 (.t 1)))),(2,(o1 12 (.fa 1 (.t 1)))),(2,(o1 14 (.fa 2 (.t 1)))),(1,(o1 8 (.ld 1 false (.t 7)))),(1,(o1 10 (.ld 1 false (.t 9)))),(2,(o1 11 (.bin .shr (.t 8) (.t 10)))),(1,(o1 13 (.ld 1 false (.t 12)))),(1,(o1 15 (.ld 1 false (.t 14)))),(2,(o1 16 (.bin .shr (.t 13) (.t 15)))),(2,(o1 17 (.bd [.n .i64 0,.n .i64 0] [(0,1,(.t 11)),(1,1,(.t 16))]))),
  (3,(o3 (.st 2 (.t 2) (.t 17))))]
abbrev FI:List AO:=
 [o1 19 (.fa 2 (.t 1)),o1 20 (.ld 1 false (.t 19)),o1 21 (.fa 3 (.t 1)),o1 22 (.ld 1 false (.t 21)),o1 23 (.bin .eql (.t 20) (.t 22)),
  (mt 18 23)]
abbrev FM:List (Nat×AO):=
 [(2,(o1 24 (.fa 0 (.t 1)))),(2,(o1 26 (.fa 2 (.t 1)))),(2,(o1 30 (.fa 1 (.t 1)))),(2,(o1 32 (.fa 2 (.t 1)))),(1,(o1 25 (.ld 1 false (.t 24)))),(1,(o1 27 (.ld 1 false (.t 26)))),(2,(o1 28 (.bin .rem (.t 27) (ci 32)))),(2,(o1 29 (.bin .shr (.t 25) (.t 28)))),(1,(o1 31 (.ld 1 false (.t 30)))),(1,(o1 33 (.ld 1 false (.t 32)))),(2,(o1 34 (.bin .rem (.t 33) (ci 32)))),(2,(o1 35 (.bin .shr (.t 31) (.t 34)))),(2,(o1 36 (.bd [.n .i64 0,.n .i64 0] [(0,1,(.t 29)),(1,1,(.t 35))]))),
  (3,(o3 (.st 2 (.t 2) (.t 36))))]
abbrev FO:AC:=
 (.seq (.reg FJ) (.cond (.t 3) (.seq (.mix FN) .ret) (.seq (.reg FI) (.cond (.t 18) (.seq (.mix FM) .ret) .skip))))
abbrev FH:List AO:=
 [o1 37 (.fa 1 (.t 1)),o1 38 (.ld 1 false (.t 37)),o1 39 (.bd [.n .i64 0,.n .i64 0] [(1,1,(.t 38))]),
  (o3 (.st 2 (.t 2) (.t 39)))]
abbrev zc:AF:=⟨40,(.seq (.reg FK) (.seq (.block 0 FO) (.seq (.reg FH) .ret))),[.ld 2 true (.t 2)]⟩
theorem FL:av Tryz.prog (aa Tryz.prog 133) 133=some zc:=by kernel_rfl
/-! interval.operands.least-/
abbrev FF:List AO:=
 [o1 1 (.bx 202 0 (.t 0)),o1 2 (.al 123 [.n .i64 0,.n .i64 0])]
abbrev FE:List AO:=
 [o1 3 (.fa 0 (.t 1)),o1 4 (.ld 1 false (.t 3)),o1 5 (.fa 2 (.t 1)),o1 6 (.ld 1 false (.t 5)),⟨some 7,none,.mo (.mi (.t 4) (.t 6))⟩,o1 8 (.fa 1 (.t 1)),o1 9 (.ld 1 false (.t 8)),o1 10 (.fa 3 (.t 1)),o1 11 (.ld 1 false (.t 10)),⟨some 12,none,.mo (.mi (.t 9) (.t 11))⟩,o1 13 (.bd [.n .i64 0,.n .i64 0] [(0,1,(.t 7)),(1,1,(.t 12))]),
  (o3 (.st 2 (.t 2) (.t 13)))]
abbrev zb:AF:=⟨14,(.seq (.reg FF) (.seq (.reg FE) .ret)),[.ld 2 true (.t 2)]⟩
theorem FG:av Tryz.prog (aa Tryz.prog 134) 134=some zb:=by kernel_rfl
/-! interval.operands.greatest-/
abbrev FC:List AO:=
 [o1 1 (.bx 202 0 (.t 0)),o1 2 (.al 123 [.n .i64 0,.n .i64 0])]
abbrev FB:List AO:=
 [o1 3 (.fa 0 (.t 1)),o1 4 (.ld 1 false (.t 3)),o1 5 (.fa 2 (.t 1)),o1 6 (.ld 1 false (.t 5)),⟨some 7,none,.mo (.mx (.t 4) (.t 6))⟩,o1 8 (.fa 1 (.t 1)),o1 9 (.ld 1 false (.t 8)),o1 10 (.fa 3 (.t 1)),o1 11 (.ld 1 false (.t 10)),⟨some 12,none,.mo (.mx (.t 9) (.t 11))⟩,o1 13 (.bd [.n .i64 0,.n .i64 0] [(0,1,(.t 7)),(1,1,(.t 12))]),
  (o3 (.st 2 (.t 2) (.t 13)))]
abbrev za:AF:=⟨14,(.seq (.reg FC) (.seq (.reg FB) .ret)),[.ld 2 true (.t 2)]⟩
theorem FD:av Tryz.prog (aa Tryz.prog 135) 135=some za:=by kernel_rfl
/-! interval.operands.hash-/
abbrev Fy:List AO:=
 [o1 1 (.bx 202 0 (.t 0)),o1 2 (.al 123 [.n .i64 0,.n .i64 0])]
abbrev Fx:List AO:=
 [(o2 3 73 []),
  (o3 (.st 2 (.t 2) (.t 3)))]
abbrev y9:AF:=⟨4,(.seq (.reg Fy) (.seq (.reg Fx) .ret)),[.ld 2 true (.t 2)]⟩
theorem FA:av Tryz.prog (aa Tryz.prog 136) 136=some y9:=by kernel_rfl
/-! interval.shifted-/
abbrev Fu:List AO:=
 [o1 4 (.al 123 [.n .i64 0,.n .i64 0])]
abbrev Ft:List AO:=
 [(mt 6 0),o1 7 (.bin .geq (.t 6) (ci 0)),
  (mt 8 7),
  (o5 9 8 (.mv (.t 1))),
  (o5 10 8 (.bin .leq (.t 9) (ci 4294967295))),o1 11 (.pick (.t 8) (.t 10) (.c (.b false))),
  (mt 5 11)]
abbrev Fs:List AO:=
 [(mt 12 0),
  (mt 13 1),o1 14 (.bd [.n .i64 0,.n .i64 0] [(0,1,(.t 12)),(1,1,(.t 13))]),
  (o3 (.st 2 (.t 4) (.t 14)))]
abbrev Fq:List AO:=
 [(mt 16 0),o1 17 (.bin .gtr (.t 16) (ci 4294967295)),
  (mt 15 17)]
abbrev Fp:List AO:=
 [(mt 18 0),o1 19 (.bin .sub (.t 18) (ci 4294967295)),o1 20 (.bin .sub (.t 19) (ci 1)),
  (mt 21 1),o1 22 (.bin .sub (.t 21) (ci 4294967295)),o1 23 (.bin .sub (.t 22) (ci 1)),o1 24 (.bd [.n .i64 0,.n .i64 0] [(0,1,(.t 20)),(1,1,(.t 23))]),
  (o3 (.st 2 (.t 4) (.t 24)))]
abbrev Fn:List AO:=
 [(mt 26 1),o1 27 (.bin .lss (.t 26) (ci 0)),
  (mt 25 27)]
abbrev Fm:List AO:=
 [(mt 28 0),o1 29 (.bin .add (.t 28) (ci 4294967295)),o1 30 (.bin .add (.t 29) (ci 1)),
  (mt 31 1),o1 32 (.bin .add (.t 31) (ci 4294967295)),o1 33 (.bin .add (.t 32) (ci 1)),o1 34 (.bd [.n .i64 0,.n .i64 0] [(0,1,(.t 30)),(1,1,(.t 33))]),
  (o3 (.st 2 (.t 4) (.t 34)))]
abbrev Fw:AC:=
 (.seq (.reg Ft) (.cond (.t 5) (.seq (.reg Fs) .ret) (.seq (.reg Fq) (.cond (.t 15) (.seq (.reg Fp) .ret) (.seq (.reg Fn) (.cond (.t 25) (.seq (.reg Fm) .ret) .skip))))))
abbrev Fl:List AO:=
 [(o2 35 73 []),
  (o3 (.st 2 (.t 4) (.t 35)))]
abbrev y8:AF:=⟨36,(.seq (.reg Fu) (.seq (.block 0 Fw) (.seq (.reg Fl) .ret))),[.ld 2 true (.t 4)]⟩
theorem Fv:av Tryz.prog (aa Tryz.prog 138) 138=some y8:=by kernel_rfl
/-! interval.ones-/
abbrev Fj:List AO:=
 [o1 2 (.mv (ci 0))]
abbrev Fi:List AO:=
 [(mt 3 0),o1 4 (.cvi .u64 (.t 3)),
  (o2 5 114 [.t 4]),o1 6 (.bin .shl (ci 1) (.t 5)),o1 7 (.bin .sub (.t 6) (ci 1)),
  (mt 2 7)]
abbrev y6:AF:=⟨8,(.seq (.reg Fj) (.seq (.reg Fi) .ret)),[.mv (.t 2)]⟩
theorem Fk:av Tryz.prog (aa Tryz.prog 139) 139=some y6:=by kernel_rfl
/-! instruction.combinations$1-/
abbrev Fg:List AO:=
 [o1 4 (.mv (.c (.n .u32 0)))]
abbrev Ff:List AO:=
 [(mt 5 0),
  (mt 6 1),o1 7 (.bin .add (.t 5) (.t 6)),
  (mt 4 7)]
abbrev yZ:AF:=⟨8,(.seq (.reg Fg) (.seq (.reg Ff) .ret)),[.mv (.t 4)]⟩
theorem Fh:av Tryz.prog (aa Tryz.prog 140) 140=some yZ:=by kernel_rfl
/-! instruction.combinations$2-/
abbrev Fd:List AO:=
 [o1 4 (.mv (.c (.n .u32 0)))]
abbrev Fc:List AO:=
 [(mt 5 0),
  (mt 6 1),o1 7 (.bin .sub (.t 5) (.t 6)),
  (mt 4 7)]
abbrev yY:AF:=⟨8,(.seq (.reg Fd) (.seq (.reg Fc) .ret)),[.mv (.t 4)]⟩
theorem Fe:av Tryz.prog (aa Tryz.prog 141) 141=some yY:=by kernel_rfl
/-! instruction.combinations$3-/
abbrev Fa:List AO:=
 [o1 4 (.mv (.c (.n .u32 0)))]
abbrev E9:List AO:=
 [(mt 5 0),
  (mt 6 1),o1 7 (.bin .mul (.t 5) (.t 6)),
  (mt 4 7)]
abbrev yX:AF:=⟨8,(.seq (.reg Fa) (.seq (.reg E9) .ret)),[.mv (.t 4)]⟩
theorem Fb:av Tryz.prog (aa Tryz.prog 142) 142=some yX:=by kernel_rfl
/-! instruction.combinations$4-/
abbrev E7:List AO:=
 [o1 4 (.mv (.c (.n .u32 0)))]
abbrev E6:List AO:=
 [(mt 5 0),
  (mt 6 1),o1 7 (.bin .quo (.t 5) (.t 6)),
  (mt 4 7)]
abbrev yW:AF:=⟨8,(.seq (.reg E7) (.seq (.reg E6) .ret)),[.mv (.t 4)]⟩
theorem E8:av Tryz.prog (aa Tryz.prog 143) 143=some yW:=by kernel_rfl
/-! instruction.combinations$5-/
abbrev E1:List AO:=
 [o1 4 (.mv (.c (.n .u32 0)))]
abbrev E0:List AO:=
 [(mt 5 0),
  (mt 6 1),o1 7 (.bin .rem (.t 5) (.t 6)),
  (mt 4 7)]
abbrev yU:AF:=⟨8,(.seq (.reg E1) (.seq (.reg E0) .ret)),[.mv (.t 4)]⟩
theorem E2:av Tryz.prog (aa Tryz.prog 144) 144=some yU:=by kernel_rfl
/-! instruction.combinations$6-/
abbrev EY:List AO:=
 [o1 4 (.mv (.c (.n .u32 0)))]
abbrev EX:List AO:=
 [(mt 5 0),
  (mt 6 1),o1 7 (.bin .and (.t 5) (.t 6)),
  (mt 4 7)]
abbrev yT:AF:=⟨8,(.seq (.reg EY) (.seq (.reg EX) .ret)),[.mv (.t 4)]⟩
theorem EZ:av Tryz.prog (aa Tryz.prog 145) 145=some yT:=by kernel_rfl
/-! instruction.combinations$7-/
abbrev EV:List AO:=
 [o1 4 (.mv (.c (.n .u32 0)))]
abbrev EU:List AO:=
 [(mt 5 0),
  (mt 6 1),o1 7 (.bin .or (.t 5) (.t 6)),
  (mt 4 7)]
abbrev yS:AF:=⟨8,(.seq (.reg EV) (.seq (.reg EU) .ret)),[.mv (.t 4)]⟩
theorem EW:av Tryz.prog (aa Tryz.prog 146) 146=some yS:=by kernel_rfl
/-! instruction.combinations$8-/
abbrev ES:List AO:=
 [o1 4 (.mv (.c (.n .u32 0)))]
abbrev EP:List AO:=
 [(mt 5 0),
  (mt 6 1),o1 7 (.bin .xor (.t 5) (.t 6)),
  (mt 4 7)]
abbrev yR:AF:=⟨8,(.seq (.reg ES) (.seq (.reg EP) .ret)),[.mv (.t 4)]⟩
theorem ET:av Tryz.prog (aa Tryz.prog 147) 147=some yR:=by kernel_rfl
/-! instruction.combinations$9-/
abbrev EM:List AO:=
 [o1 4 (.mv (.c (.n .u32 0)))]
abbrev EL:List AO:=
 [(mt 5 0),
  (mt 6 1),o1 7 (.bin .rem (.t 6) (.c (.n .u32 32))),o1 8 (.bin .shl (.t 5) (.t 7)),
  (mt 4 8)]
abbrev yQ:AF:=⟨9,(.seq (.reg EM) (.seq (.reg EL) .ret)),[.mv (.t 4)]⟩
theorem EO:av Tryz.prog (aa Tryz.prog 148) 148=some yQ:=by kernel_rfl
/-! instruction.combinations$10-/
abbrev EJ:List AO:=
 [o1 4 (.mv (.c (.n .u32 0)))]
abbrev EI:List AO:=
 [(mt 5 0),
  (mt 6 1),o1 7 (.bin .rem (.t 6) (.c (.n .u32 32))),o1 8 (.bin .shr (.t 5) (.t 7)),
  (mt 4 8)]
abbrev yP:AF:=⟨9,(.seq (.reg EJ) (.seq (.reg EI) .ret)),[.mv (.t 4)]⟩
theorem EK:av Tryz.prog (aa Tryz.prog 149) 149=some yP:=by kernel_rfl
/-! instruction.combinations$11-/
abbrev EG:List AO:=
 [o1 4 (.mv (.c (.n .u32 0)))]
abbrev EF:List AO:=
 [(mt 5 0),
  (mt 6 1),⟨some 7,none,.mo (.mi (.t 5) (.t 6))⟩,
  (mt 4 7)]
abbrev yO:AF:=⟨8,(.seq (.reg EG) (.seq (.reg EF) .ret)),[.mv (.t 4)]⟩
theorem EH:av Tryz.prog (aa Tryz.prog 150) 150=some yO:=by kernel_rfl
/-! instruction.combinations$12-/
abbrev ED:List AO:=
 [o1 4 (.mv (.c (.n .u32 0)))]
abbrev EC:List AO:=
 [(mt 5 0),
  (mt 6 1),⟨some 7,none,.mo (.mx (.t 5) (.t 6))⟩,
  (mt 4 7)]
abbrev yN:AF:=⟨8,(.seq (.reg ED) (.seq (.reg EC) .ret)),[.mv (.t 4)]⟩
theorem EE:av Tryz.prog (aa Tryz.prog 151) 151=some yN:=by kernel_rfl
/-! instruction.hash-/
abbrev EA:List AO:=
 [o1 4 (.mv (.c (.n .u32 0)))]
abbrev Ez:List AO:=
 [(mt 6 0),
  (mt 7 1),o1 8 (.bin .mul (.t 7) (.c (.n .u32 2654435761))),o1 9 (.bin .xor (.t 6) (.t 8)),o1 10 (.bin .mul (.t 9) (.c (.n .u32 2246822519))),
  (mt 5 10)]
abbrev Ey:List AO:=
 [(mt 11 5),
  (mt 12 5),o1 13 (.bin .shr (.t 12) (.c (.n .u64 16))),o1 14 (.bin .xor (.t 11) (.t 13)),
  (mt 4 14)]
abbrev yM:AF:=⟨15,(.seq (.reg EA) (.seq (.reg Ez) (.seq (.reg Ey) .ret))),[.mv (.t 4)]⟩
theorem EB:av Tryz.prog (aa Tryz.prog 152) 152=some yM:=by kernel_rfl
/-! instruction.combinations$13-/
abbrev Ew:List AO:=
 [o1 4 (.mv (.c (.n .u32 0)))]
abbrev Ev:List AO:=
 [(mt 5 0),
  (mt 6 1),o1 7 (.bin .eql (.t 5) (.t 6)),
  (o2 8 49 [.t 7]),
  (mt 4 8)]
abbrev yL:AF:=⟨9,(.seq (.reg Ew) (.seq (.reg Ev) .ret)),[.mv (.t 4)]⟩
theorem Ex:av Tryz.prog (aa Tryz.prog 153) 153=some yL:=by kernel_rfl
/-! instruction.combinations$14-/
abbrev Et:List AO:=
 [o1 4 (.mv (.c (.n .u32 0)))]
abbrev Es:List AO:=
 [(mt 5 0),
  (mt 6 1),o1 7 (.bin .lss (.t 5) (.t 6)),
  (o2 8 49 [.t 7]),
  (mt 4 8)]
abbrev yJ:AF:=⟨9,(.seq (.reg Et) (.seq (.reg Es) .ret)),[.mv (.t 4)]⟩
theorem Eu:av Tryz.prog (aa Tryz.prog 154) 154=some yJ:=by kernel_rfl
/-! instruction.combinations$15-/
abbrev Ep:List AO:=
 [o1 4 (.mv (.c (.n .u32 0)))]
abbrev Eo:List AO:=
 [(mt 5 0),o1 6 (.bin .eql (.t 5) (.c (.n .u32 0))),
  (o2 7 49 [.t 6]),
  (mt 4 7)]
abbrev yI:AF:=⟨8,(.seq (.reg Ep) (.seq (.reg Eo) .ret)),[.mv (.t 4)]⟩
theorem Er:av Tryz.prog (aa Tryz.prog 155) 155=some yI:=by kernel_rfl
/-! instruction.combinations$16-/
abbrev Em:List AO:=
 [o1 4 (.mv (.c (.n .u32 0)))]
abbrev El:List AO:=
 [(mt 5 0),o1 6 (.bin .neq (.t 5) (.c (.n .u32 0))),
  (mt 7 6),
  (o5 8 7 (.mv (.t 1))),
  (o5 9 7 (.bin .neq (.t 8) (.c (.n .u32 0)))),o1 10 (.pick (.t 7) (.t 9) (.c (.b false))),
  (o2 11 49 [.t 10]),
  (mt 4 11)]
abbrev yH:AF:=⟨12,(.seq (.reg Em) (.seq (.reg El) .ret)),[.mv (.t 4)]⟩
theorem En:av Tryz.prog (aa Tryz.prog 156) 156=some yH:=by kernel_rfl
/-! instruction.combinations$17-/
abbrev Ej:List AO:=
 [o1 4 (.mv (.c (.n .u32 0)))]
abbrev Ei:List AO:=
 [(mt 5 0),o1 6 (.bin .neq (.t 5) (.c (.n .u32 0))),
  (mt 7 6),
  (o4 8 7 (.mv (.t 1))),
  (o4 9 7 (.bin .neq (.t 8) (.c (.n .u32 0)))),o1 10 (.pick (.t 7) (.c (.b true)) (.t 9)),
  (o2 11 49 [.t 10]),
  (mt 4 11)]
abbrev yG:AF:=⟨12,(.seq (.reg Ej) (.seq (.reg Ei) .ret)),[.mv (.t 4)]⟩
theorem Ek:av Tryz.prog (aa Tryz.prog 157) 157=some yG:=by kernel_rfl
/-! instruction.combinations$18-/
abbrev Eg:List AO:=
 [o1 4 (.mv (.c (.n .u32 0)))]
abbrev Ef:List AO:=
 [(mt 5 0),o1 6 (.bin .neq (.t 5) (.c (.n .u32 0))),
  (o2 7 49 [.t 6]),
  (mt 4 7)]
abbrev yF:AF:=⟨8,(.seq (.reg Eg) (.seq (.reg Ef) .ret)),[.mv (.t 4)]⟩
theorem Eh:av Tryz.prog (aa Tryz.prog 158) 158=some yF:=by kernel_rfl
end Go.Proofs.YthehakngpbjgjaaGreat