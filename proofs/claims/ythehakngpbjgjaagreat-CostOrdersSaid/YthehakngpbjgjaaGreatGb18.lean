/- A part of the proof of CostOrders: AcCsF. No condition. -/
import Derived.Test.YthehakngpbjgjaaGreatGb14
import Derived.Test.YthehakngpbjgjaaGreatProg
set_option linter.unusedSimpArgs false
set_option linter.unusedVariables false
set_option linter.constructorNameAsVariable false
set_option maxRecDepth 100000
set_option maxHeartbeats 4000000
namespace Go.Proofs.YthehakngpbjgjaaGreat
open Go.RowKit
/-! compactorlaw21.CostMemory-/
abbrev D1:List AO:=
 [o1 1 (.bx 25 0 (.t 0)),o1 2 (.mv (.c (.b false)))]
abbrev D0:List AO:=
 [o1 7 (.ld 3 true (.t 1)),
  (o2 8 7 [.t 7]),o1 9 (.un .not (.t 8))]
abbrev DZ:List AO:=
 [(o2 10 8 []),
  (mt 2 10)]
abbrev DY:List AO:=
 [o1 12 (.ld 3 true (.t 1)),
  (o2 13 9 [.t 12]),
  (mt 11 13),o1 14 (.ext 0 (.t 11)),o1 15 (.ext 1 (.t 11)),
  (mt 3 14),
  (mt 4 15)]
abbrev DX:List AO:=
 [o1 17 (.ld 3 true (.t 1)),
  (o2 18 10 [.t 17]),
  (mt 16 18),o1 19 (.ext 0 (.t 16)),o1 20 (.ext 1 (.t 16)),
  (mt 5 19),
  (mt 6 20)]
abbrev DW:List AO:=
 [(mt 21 3),
  (mt 22 5),o1 23 (.bin .eql (.t 21) (.t 22)),
  (mt 24 23),
  (o5 25 24 (.mv (.t 4))),
  (o5 26 24 (.mv (.t 6))),
  (o5 27 24 (.bin .eql (.t 25) (.t 26))),o1 28 (.pick (.t 24) (.t 27) (.c (.b false))),
  (mt 29 28),⟨some 30,some (29,true),.cl (.c (.f 8 [] [])) []⟩,o1 31 (.pick (.t 29) (.t 30) (.c (.b false))),
  (mt 2 31)]
abbrev D3:AF:=⟨32,(.seq (.reg D1) (.seq (.seq (.reg D0) (.cond (.t 9) (.seq (.reg DZ) .ret) .skip)) (.seq (.reg DY) (.seq (.reg DX) (.seq (.reg DW) .ret))))),[.mv (.t 2)]⟩
theorem D2:ab Tryz.prog (aa Tryz.prog 3) 3=some D3:=by kernel_rfl
/-! compactorlaw21.CostCompares-/
abbrev DS:List AO:=
 [o1 2 (.bx 34 0 (.t 0)),o1 3 (.bx 34 0 (.t 1)),o1 4 (.mv (.c (.b false)))]
abbrev DU:List (Nat×AO):=
 [(1,(o1 5 (.ld 2 true (.t 2)))),(1,(o1 6 (.ld 2 true (.t 3)))),(1,(o1 8 (.ld 2 true (.t 2)))),(1,(o1 9 (.ld 2 true (.t 3)))),
  (0,(o2 7 11 [.t 5,.t 6])),
  (0,(o2 10 12 [.t 8,.t 9])),(2,(o1 11 (.eq false (.st [(0,1,.n),(1,1,.n)]) (.t 7) (.t 10)))),
  (2,(mt 12 11)),
  (1,(o5 13 12 (.ld 2 true (.t 2)))),
  (1,(o5 14 12 (.ld 2 true (.t 3)))),
  (1,(o5 16 12 (.ld 2 true (.t 2)))),
  (1,(o5 17 12 (.ld 2 true (.t 3)))),(0,⟨some 15,some (12,true),.cl (.c (.f 13 [] [])) [.t 13,.t 14]⟩),(3,⟨some 18,some (12,true),.cl (.c (.f 14 [] [])) [.t 16,.t 17]⟩),
  (2,(o5 19 12 (.eq false .b (.t 15) (.t 18)))),(2,(o1 20 (.pick (.t 12) (.t 19) (.c (.b false))))),
  (2,(mt 21 20)),(3,⟨some 22,some (21,true),.cl (.c (.f 8 [] [])) []⟩),(2,(o1 23 (.pick (.t 21) (.t 22) (.c (.b false))))),
  (2,(mt 4 23))]
abbrev DV:AF:=⟨24,(.seq (.reg DS) (.seq (.mix DU) .ret)),[.mv (.t 4)]⟩
theorem DT:ab Tryz.prog (aa Tryz.prog 4) 4=some DV:=by kernel_rfl
/-! compactorlaw21.CostOrders-/
abbrev DL:List AO:=
 [o1 1 (.bx 39 0 (.t 0)),o1 2 (.mv (.c (.b false)))]
abbrev DK:List AO:=
 [o1 3 (.al 40 [.n .i64 0,.n .i64 0,.n .i64 0,.n .i64 0,.n .i64 0,.n .i64 0])]
abbrev DJ:List AO:=
 [o1 6 (.mv (ci 0))]
abbrev DI:List AO:=
 [o1 7 (.bin .lss (.t 6) (ci 3))]
abbrev DH:List AO:=
 [(mt 8 6),
  (mt 4 8)]
abbrev DM:List (Nat×AO):=
 [(2,(mt 9 4)),
  (2,(mt 10 4)),(2,(o1 11 (.iaa 3 2 (.t 1) (.t 10)))),(2,(o1 12 (.iaa 2 1 (.t 11) (ci 0)))),
  (2,(mt 15 4)),(2,(o1 16 (.iaa 3 2 (.t 1) (.t 15)))),(2,(o1 17 (.iaa 2 1 (.t 16) (ci 1)))),(1,(o1 13 (.ld 1 false (.t 12)))),(2,(o1 14 (.cvi .i64 (.t 13)))),(1,(o1 18 (.ld 1 false (.t 17)))),(2,(o1 19 (.cvi .i64 (.t 18)))),(2,(o1 20 (.bd [.n .i64 0,.n .i64 0] [(0,1,(.t 14)),(1,1,(.t 19))]))),(2,(o1 21 (.iaa 3 2 (.t 3) (.t 9)))),
  (3,(o3 (.st 2 (.t 21) (.t 20))))]
abbrev DP:AC:=
 (.seq (.reg DH) (.mix DM))
abbrev DG:List AO:=
 [o1 22 (.bin .add (.t 6) (ci 1)),
  (mt 6 22)]
abbrev DQ:AC:=
 (.seq (.reg DI) (.seq (.cond (.t 7) .skip (.exit 0)) (.seq (.block 1 DP) (.reg DG))))
abbrev DN:AC:=
 (.loop DQ)
abbrev rn:List AO:=
 [o1 23 (.iaa 3 2 (.t 3) (ci 0)),o1 24 (.ld 2 true (.t 23)),o1 25 (.iaa 3 2 (.t 3) (ci 1)),o1 26 (.ld 2 true (.t 25)),
  (o2 27 11 [.t 24,.t 26]),o1 5 (.al 34 [.n .i64 0,.n .i64 0]),
  (o3 (.st 2 (.t 5) (.t 27)))]
abbrev rm:List AO:=
 [o1 28 (.ld 2 true (.t 5)),o1 29 (.iaa 3 2 (.t 3) (ci 2)),o1 30 (.ld 2 true (.t 29)),
  (o2 31 13 [.t 28,.t 30]),
  (mt 32 31),
  (o5 33 32 (.iaa 3 2 (.t 3) (ci 0))),
  (o5 34 32 (.ld 2 true (.t 33))),
  (o5 35 32 (.iaa 3 2 (.t 3) (ci 2))),
  (o5 36 32 (.ld 2 true (.t 35))),⟨some 37,some (32,true),.cl (.c (.f 13 [] [])) [.t 34,.t 36]⟩,
  (o5 38 32 (.un .not (.t 37))),
  (o5 39 32 (.mv (.t 38))),
  (o4 40 39 (.iaa 3 2 (.t 3) (ci 1))),
  (o4 41 39 (.ld 2 true (.t 40))),
  (o4 42 39 (.iaa 3 2 (.t 3) (ci 2))),
  (o4 43 39 (.ld 2 true (.t 42))),⟨some 44,some (39,false),.cl (.c (.f 13 [] [])) [.t 41,.t 43]⟩,
  (o4 45 39 (.un .not (.t 44))),
  (o5 46 32 (.pick (.t 39) (.c (.b true)) (.t 45))),o1 47 (.pick (.t 32) (.t 46) (.c (.b false))),
  (mt 48 47),
  (o4 49 48 (.iaa 3 2 (.t 3) (ci 0))),
  (o4 50 48 (.ld 2 true (.t 49))),
  (o4 51 48 (.ld 2 true (.t 5))),⟨some 52,some (48,false),.cl (.c (.f 13 [] [])) [.t 50,.t 51]⟩,
  (o4 53 48 (.un .not (.t 52))),o1 54 (.pick (.t 48) (.c (.b true)) (.t 53)),
  (mt 55 54),
  (o4 56 55 (.iaa 3 2 (.t 3) (ci 1))),
  (o4 57 55 (.ld 2 true (.t 56))),
  (o4 58 55 (.ld 2 true (.t 5))),⟨some 59,some (55,false),.cl (.c (.f 13 [] [])) [.t 57,.t 58]⟩,
  (o4 60 55 (.un .not (.t 59))),o1 61 (.pick (.t 55) (.c (.b true)) (.t 60))]
abbrev rl:List AO:=
 [o1 2 (.mv (.c (.b false)))]
abbrev rk:List AO:=
 [o1 62 (.iaa 3 2 (.t 3) (ci 0)),o1 63 (.ld 2 true (.t 62)),o1 64 (.iaa 3 2 (.t 3) (ci 1)),o1 65 (.ld 2 true (.t 64)),
  (o2 66 13 [.t 63,.t 65]),
  (mt 67 66),
  (o5 68 67 (.iaa 3 2 (.t 3) (ci 1))),
  (o5 69 67 (.ld 2 true (.t 68))),
  (o5 70 67 (.iaa 3 2 (.t 3) (ci 2))),
  (o5 71 67 (.ld 2 true (.t 70))),⟨some 72,some (67,true),.cl (.c (.f 13 [] [])) [.t 69,.t 71]⟩,o1 73 (.pick (.t 67) (.t 72) (.c (.b false))),
  (mt 74 73),
  (o5 75 74 (.iaa 3 2 (.t 3) (ci 0))),
  (o5 76 74 (.ld 2 true (.t 75))),
  (o5 77 74 (.iaa 3 2 (.t 3) (ci 2))),
  (o5 78 74 (.ld 2 true (.t 77))),⟨some 79,some (74,true),.cl (.c (.f 13 [] [])) [.t 76,.t 78]⟩,
  (o5 80 74 (.un .not (.t 79))),o1 81 (.pick (.t 74) (.t 80) (.c (.b false)))]
abbrev rj:List AO:=
 [o1 2 (.mv (.c (.b false)))]
abbrev ro:List (Nat×AO):=
 [(2,(o1 82 (.iaa 3 2 (.t 3) (ci 1)))),(2,(o1 84 (.iaa 3 2 (.t 3) (ci 0)))),(1,(o1 83 (.ld 2 true (.t 82)))),(1,(o1 85 (.ld 2 true (.t 84)))),(1,(o1 87 (.ld 2 true (.t 5)))),
  (0,(o2 86 11 [.t 83,.t 85])),(2,(o1 88 (.eq false (.st [(0,1,.n),(1,1,.n)]) (.t 86) (.t 87)))),
  (2,(mt 89 88)),
  (2,(o5 90 89 (.iaa 3 2 (.t 3) (ci 0)))),
  (2,(o5 92 89 (.bd [.n .i64 0,.n .i64 0] []))),
  (2,(o5 94 89 (.iaa 3 2 (.t 3) (ci 0)))),
  (1,(o5 91 89 (.ld 2 true (.t 90)))),
  (1,(o5 95 89 (.ld 2 true (.t 94)))),(0,⟨some 93,some (89,true),.cl (.c (.f 11 [] [])) [.t 91,.t 92]⟩),
  (2,(o5 96 89 (.eq false (.st [(0,1,.n),(1,1,.n)]) (.t 93) (.t 95)))),(2,(o1 97 (.pick (.t 89) (.t 96) (.c (.b false))))),
  (2,(mt 98 97)),
  (2,(o5 99 98 (.iaa 3 2 (.t 3) (ci 0)))),
  (2,(o5 101 98 (.iaa 3 2 (.t 3) (ci 0)))),
  (1,(o5 100 98 (.ld 2 true (.t 99)))),
  (1,(o5 102 98 (.ld 2 true (.t 101)))),(3,⟨some 103,some (98,true),.cl (.c (.f 13 [] [])) [.t 100,.t 102]⟩),(2,(o1 104 (.pick (.t 98) (.t 103) (.c (.b false))))),
  (2,(mt 105 104)),(3,⟨some 106,some (105,true),.cl (.c (.f 8 [] [])) []⟩),(2,(o1 107 (.pick (.t 105) (.t 106) (.c (.b false))))),
  (2,(mt 2 107))]
abbrev DR:AF:=⟨108,(.seq (.reg DL) (.seq (.reg DK) (.seq (.seq (.reg DJ) (.block 0 DN)) (.seq (.reg rn) (.seq (.seq (.reg rm) (.cond (.t 61) (.seq (.reg rl) .ret) .skip)) (.seq (.seq (.reg rk) (.cond (.t 81) (.seq (.reg rj) .ret) .skip)) (.seq (.mix ro) .ret))))))),[.mv (.t 2)]⟩
theorem oZ:ab Tryz.prog (aa Tryz.prog 5) 5=some DR:=by kernel_rfl
/-! compactorlaw21.CostBounds-/
abbrev DD:List AO:=
 [o1 2 (.bx 25 0 (.t 0)),o1 3 (.bx 44 0 (.t 1)),o1 4 (.mv (.c (.b false)))]
abbrev DC:List AO:=
 [o1 13 (.ld 3 true (.t 2)),o1 14 (.ld 4 true (.t 3)),
  (o2 15 15 [.t 13,.t 14]),o1 16 (.un .not (.t 15))]
abbrev DB:List AO:=
 [(o2 17 8 []),
  (mt 4 17)]
abbrev DA:List AO:=
 [o1 19 (.ld 3 true (.t 2)),o1 20 (.ld 4 true (.t 3)),
  (o2 21 16 [.t 19,.t 20]),
  (mt 18 21),o1 22 (.ext 0 (.t 18)),o1 23 (.ext 1 (.t 18)),
  (mt 5 22),
  (mt 6 23)]
abbrev Dz:List AO:=
 [o1 25 (.ld 3 true (.t 2)),o1 26 (.ld 4 true (.t 3)),
  (o2 27 17 [.t 25,.t 26]),
  (mt 24 27),o1 28 (.ext 0 (.t 24)),o1 29 (.ext 1 (.t 24)),
  (mt 7 28),
  (mt 8 29)]
abbrev Dy:List AO:=
 [o1 31 (.ld 3 true (.t 2)),o1 32 (.ld 4 true (.t 3)),
  (o2 33 18 [.t 31,.t 32]),
  (mt 30 33),o1 34 (.ext 0 (.t 30)),o1 35 (.ext 1 (.t 30)),
  (mt 9 34),
  (mt 10 35)]
abbrev Dx:List AO:=
 [o1 37 (.ld 3 true (.t 2)),o1 38 (.ld 4 true (.t 3)),
  (o2 39 19 [.t 37,.t 38]),
  (mt 36 39),o1 40 (.ext 0 (.t 36)),o1 41 (.ext 1 (.t 36)),
  (mt 11 40),
  (mt 12 41)]
abbrev Dw:List AO:=
 [(mt 42 5),
  (mt 43 7),o1 44 (.bin .eql (.t 42) (.t 43)),
  (mt 45 44),
  (o5 46 45 (.mv (.t 6))),
  (o5 47 45 (.mv (.t 8))),
  (o5 48 45 (.bin .eql (.t 46) (.t 47))),o1 49 (.pick (.t 45) (.t 48) (.c (.b false))),
  (mt 50 49),
  (o5 51 50 (.mv (.t 9))),
  (o5 52 50 (.mv (.t 11))),
  (o5 53 50 (.bin .eql (.t 51) (.t 52))),o1 54 (.pick (.t 50) (.t 53) (.c (.b false))),
  (mt 55 54),
  (o5 56 55 (.mv (.t 10))),
  (o5 57 55 (.mv (.t 12))),
  (o5 58 55 (.bin .eql (.t 56) (.t 57))),o1 59 (.pick (.t 55) (.t 58) (.c (.b false))),
  (mt 60 59),⟨some 61,some (60,true),.cl (.c (.f 8 [] [])) []⟩,o1 62 (.pick (.t 60) (.t 61) (.c (.b false))),
  (mt 4 62)]
abbrev DF:AF:=⟨63,(.seq (.reg DD) (.seq (.seq (.reg DC) (.cond (.t 16) (.seq (.reg DB) .ret) .skip)) (.seq (.reg DA) (.seq (.reg Dz) (.seq (.reg Dy) (.seq (.reg Dx) (.seq (.reg Dw) .ret))))))),[.mv (.t 4)]⟩
theorem DE:ab Tryz.prog (aa Tryz.prog 6) 6=some DF:=by kernel_rfl
/-! compactorref15.Few-/
abbrev Dr:List AO:=
 [o1 1 (.bx 25 0 (.t 0)),o1 2 (.mv (.c (.b false)))]
abbrev Dq:List AO:=
 [o1 4 (.fa 0 (.t 1)),o1 5 (.ld 1 false (.t 4)),o1 6 (.len (.t 5)),o1 7 (.bin .gtr (.t 6) (ci 20)),
  (mt 8 7),
  (o4 9 8 (.fa 2 (.t 1))),
  (o4 10 8 (.ld 1 false (.t 9))),
  (o4 11 8 (.len (.t 10))),
  (o4 12 8 (.bin .gtr (.t 11) (ci 200))),o1 13 (.pick (.t 8) (.c (.b true)) (.t 12)),
  (mt 14 13),
  (o4 15 14 (.fa 2 (.t 1))),
  (o4 16 14 (.ld 1 false (.t 15))),⟨some 17,some (14,false),.cl (.c (.f 20 [] [])) [.t 16]⟩,
  (o4 18 14 (.un .not (.t 17))),o1 19 (.pick (.t 14) (.c (.b true)) (.t 18))]
abbrev Dp:List AO:=
 [o1 2 (.mv (.c (.b false)))]
abbrev Dn:List AO:=
 [o1 3 (.mv (ci 0))]
abbrev Dm:List AO:=
 [(mt 20 3),o1 21 (.fa 0 (.t 1)),o1 22 (.ld 1 false (.t 21)),o1 23 (.len (.t 22)),o1 24 (.bin .lss (.t 20) (.t 23))]
abbrev Dl:List AO:=
 [o1 27 (.fa 0 (.t 1)),o1 28 (.ld 1 false (.t 27)),
  (mt 29 3),o1 30 (.ia 2 (.t 28) (.t 29)),o1 31 (.fa 1 (.t 30)),o1 32 (.ld 1 false (.t 31)),o1 33 (.bin .gtr (.t 32) (ci 300)),
  (mt 34 33),
  (o5 35 34 (.fa 0 (.t 1))),
  (o5 36 34 (.ld 1 false (.t 35))),
  (o5 37 34 (.mv (.t 3))),
  (o5 38 34 (.ia 2 (.t 36) (.t 37))),
  (o5 39 34 (.fa 1 (.t 38))),
  (o5 40 34 (.ld 1 false (.t 39))),
  (o5 41 34 (.bin .leq (.t 40) (ci 65536))),o1 42 (.pick (.t 34) (.t 41) (.c (.b false)))]
abbrev Dk:List AO:=
 [o1 2 (.mv (.c (.b false)))]
abbrev Dt:AC:=
 (.seq (.reg Dl) (.cond (.t 42) (.seq (.reg Dk) .ret) .skip))
abbrev Dj:List AO:=
 [(mt 25 3),o1 26 (.bin .add (.t 25) (ci 1)),
  (mt 3 26)]
abbrev Du:AC:=
 (.seq (.seq (.reg Dm) (.cond (.t 24) .skip (.exit 0))) (.seq (.block 1 Dt) (.reg Dj)))
abbrev ri:AC:=
 (.loop Du)
abbrev rh:List AO:=
 [o1 2 (.mv (.c (.b true)))]
abbrev Dv:AF:=⟨43,(.seq (.reg Dr) (.seq (.seq (.reg Dq) (.cond (.t 19) (.seq (.reg Dp) .ret) .skip)) (.seq (.seq (.reg Dn) (.block 0 ri)) (.seq (.reg rh) .ret)))),[.mv (.t 2)]⟩
theorem Ds:ab Tryz.prog (aa Tryz.prog 7) 7=some Dv:=by kernel_rfl
/-! compactorref21.Memory-/
abbrev Dg:List AO:=
 [o1 1 (.bx 25 0 (.t 0)),o1 2 (.mv (ci 0)),o1 3 (.mv (ci 0))]
abbrev Df:List AO:=
 [o1 7 (.ld 3 true (.t 1)),
  (o2 8 25 [.t 7]),
  (mt 4 8)]
abbrev De:List AO:=
 [(mt 9 4),o1 10 (.bin .neq (.t 9) (ci 0))]
abbrev Dd:List AO:=
 [(mt 11 4),o1 2 (.mv (ci 0)),
  (mt 3 11)]
abbrev Dc:List AO:=
 [o1 12 (.fa 1 (.t 1)),o1 13 (.ld 1 false (.t 12)),o1 14 (.bin .mul (ci 4) (.t 13)),o1 15 (.bin .add (.t 14) (ci 128)),o1 16 (.bin .add (.t 15) (ci 64)),
  (mt 5 16)]
abbrev Db:List AO:=
 [o1 6 (.mv (ci 0))]
abbrev Da:List AO:=
 [(mt 17 6),o1 18 (.fa 0 (.t 1)),o1 19 (.ld 1 false (.t 18)),o1 20 (.len (.t 19)),o1 21 (.bin .lss (.t 17) (.t 20))]
abbrev C9:List AO:=
 [o1 24 (.fa 0 (.t 1)),o1 25 (.ld 1 false (.t 24)),
  (mt 26 6),o1 27 (.ia 2 (.t 25) (.t 26)),o1 28 (.fa 0 (.t 27)),o1 29 (.ld 1 false (.t 28))]
abbrev C8:List AO:=
 [(mt 30 5),o1 31 (.fa 0 (.t 1)),o1 32 (.ld 1 false (.t 31)),
  (mt 33 6),o1 34 (.ia 2 (.t 32) (.t 33)),o1 35 (.fa 1 (.t 34)),o1 36 (.ld 1 false (.t 35)),o1 37 (.bin .mul (ci 4) (.t 36)),o1 38 (.bin .add (.t 30) (.t 37)),
  (mt 5 38)]
abbrev C7:List AO:=
 [(mt 39 5),o1 40 (.fa 0 (.t 1)),o1 41 (.ld 1 false (.t 40)),
  (mt 42 6),o1 43 (.ia 2 (.t 41) (.t 42)),o1 44 (.fa 1 (.t 43)),o1 45 (.ld 1 false (.t 44)),o1 46 (.bin .add (.t 39) (.t 45)),
  (mt 5 46)]
abbrev rd:AC:=
 (.seq (.reg C9) (.cond (.t 29) (.reg C8) (.reg C7)))
abbrev ra:List AO:=
 [(mt 22 6),o1 23 (.bin .add (.t 22) (ci 1)),
  (mt 6 23)]
abbrev re:AC:=
 (.seq (.seq (.reg Da) (.cond (.t 21) .skip (.exit 0))) (.seq (.block 1 rd) (.reg ra)))
abbrev rb:AC:=
 (.loop re)
abbrev q9:List AO:=
 [(mt 47 5),
  (mt 2 47),o1 3 (.mv (ci 0))]
abbrev Di:AF:=⟨48,(.seq (.reg Dg) (.seq (.seq (.reg Df) (.seq (.reg De) (.cond (.t 10) (.seq (.reg Dd) .ret) .skip))) (.seq (.reg Dc) (.seq (.seq (.reg Db) (.block 0 rb)) (.seq (.reg q9) .ret))))),[.mv (.t 2),.mv (.t 3)]⟩
theorem Dh:ab Tryz.prog (aa Tryz.prog 10) 10=some Di:=by kernel_rfl
/-! compactorref21.Add-/
abbrev C3:List AO:=
 [o1 2 (.bx 34 0 (.t 0)),o1 3 (.bx 34 0 (.t 1)),o1 4 (.al 34 [.n .i64 0,.n .i64 0])]
abbrev C5:List (Nat×AO):=
 [(2,(o1 5 (.fa 0 (.t 2)))),(2,(o1 7 (.fa 0 (.t 3)))),(2,(o1 10 (.fa 1 (.t 2)))),(2,(o1 12 (.fa 1 (.t 3)))),(1,(o1 6 (.ld 1 false (.t 5)))),(1,(o1 8 (.ld 1 false (.t 7)))),(1,(o1 11 (.ld 1 false (.t 10)))),(1,(o1 13 (.ld 1 false (.t 12)))),
  (0,(o2 9 27 [.t 6,.t 8])),
  (3,(o2 14 27 [.t 11,.t 13])),(2,(o1 15 (.bd [.n .i64 0,.n .i64 0] [(0,1,(.t 9)),(1,1,(.t 14))]))),
  (3,(o3 (.st 2 (.t 4) (.t 15))))]
abbrev C6:AF:=⟨16,(.seq (.reg C3) (.seq (.mix C5) .ret)),[.ld 2 true (.t 4)]⟩
theorem C4:ab Tryz.prog (aa Tryz.prog 12) 12=some C6:=by kernel_rfl
/-! compactorref21.Fits-/
abbrev C0:List AO:=
 [o1 2 (.bx 34 0 (.t 0)),o1 3 (.bx 34 0 (.t 1)),o1 4 (.mv (.c (.b false)))]
abbrev CZ:List AO:=
 [o1 5 (.ld 2 true (.t 2)),
  (o2 6 29 [.t 5]),
  (mt 7 6),
  (o5 8 7 (.ld 2 true (.t 3))),⟨some 9,some (7,true),.cl (.c (.f 29 [] [])) [.t 8]⟩,o1 10 (.pick (.t 7) (.t 9) (.c (.b false))),
  (mt 11 10),
  (o5 12 11 (.fa 0 (.t 2))),
  (o5 13 11 (.ld 1 false (.t 12))),
  (o5 14 11 (.fa 0 (.t 3))),
  (o5 15 11 (.ld 1 false (.t 14))),
  (o5 16 11 (.bin .leq (.t 13) (.t 15))),o1 17 (.pick (.t 11) (.t 16) (.c (.b false))),
  (mt 18 17),
  (o5 19 18 (.fa 1 (.t 2))),
  (o5 20 18 (.ld 1 false (.t 19))),
  (o5 21 18 (.fa 1 (.t 3))),
  (o5 22 18 (.ld 1 false (.t 21))),
  (o5 23 18 (.bin .leq (.t 20) (.t 22))),o1 24 (.pick (.t 18) (.t 23) (.c (.b false))),
  (mt 4 24)]
abbrev C2:AF:=⟨25,(.seq (.reg C0) (.seq (.reg CZ) .ret)),[.mv (.t 4)]⟩
theorem C1:ab Tryz.prog (aa Tryz.prog 14) 14=some C2:=by kernel_rfl
/-! compactorlaw21.few-/
abbrev CW:List AO:=
 [o1 2 (.bx 25 0 (.t 0)),o1 3 (.bx 44 0 (.t 1)),o1 4 (.mv (.c (.b false)))]
abbrev CV:List AO:=
 [o1 5 (.ld 3 true (.t 2)),
  (o2 6 7 [.t 5]),
  (mt 7 6),
  (o5 8 7 (.ld 4 true (.t 3))),⟨some 9,some (7,true),.cl (.c (.f 30 [] [])) [.t 8]⟩,o1 10 (.pick (.t 7) (.t 9) (.c (.b false))),
  (mt 4 10)]
abbrev CY:AF:=⟨11,(.seq (.reg CW) (.seq (.reg CV) .ret)),[.mv (.t 4)]⟩
theorem CX:ab Tryz.prog (aa Tryz.prog 15) 15=some CY:=by kernel_rfl
/-! compactorref21.Steps-/
abbrev CS:List AO:=
 [o1 2 (.bx 25 0 (.t 0)),o1 3 (.bx 44 0 (.t 1)),o1 4 (.mv (ci 0)),o1 5 (.mv (ci 0))]
abbrev CR:List AO:=
 [o1 9 (.ld 3 true (.t 2)),o1 10 (.ld 4 true (.t 3)),
  (o2 11 35 [.t 9,.t 10]),
  (mt 8 11),o1 12 (.ext 0 (.t 8)),o1 13 (.ext 1 (.t 8)),
  (mt 6 12),
  (mt 7 13)]
abbrev CQ:List AO:=
 [(mt 14 7),o1 15 (.bin .neq (.t 14) (ci 0))]
abbrev CP:List AO:=
 [(mt 16 7),o1 4 (.mv (ci 0)),
  (mt 5 16)]
abbrev CO:List AO:=
 [(mt 17 6),o1 18 (.ld 4 true (.t 3)),
  (o2 19 37 [.t 17,.t 18]),
  (o2 20 36 [.t 19]),o1 21 (.ext 0 (.t 20)),o1 22 (.ext 1 (.t 20)),
  (mt 4 21),
  (mt 5 22)]
abbrev CU:AF:=⟨23,(.seq (.reg CS) (.seq (.reg CR) (.seq (.seq (.reg CQ) (.cond (.t 15) (.seq (.reg CP) .ret) .skip)) (.seq (.reg CO) .ret)))),[.mv (.t 4),.mv (.t 5)]⟩
theorem CT:ab Tryz.prog (aa Tryz.prog 17) 17=some CU:=by kernel_rfl
/-! cost.Emits-/
abbrev CL:List AO:=
 [o1 2 (.bx 25 0 (.t 0)),o1 3 (.bx 44 0 (.t 1)),o1 4 (.mv (ci 0)),o1 5 (.mv (ci 0))]
abbrev CK:List AO:=
 [o1 10 (.ld 3 true (.t 2)),o1 11 (.ld 4 true (.t 3)),
  (o2 12 31 [.t 10,.t 11]),
  (mt 9 12),o1 13 (.ext 0 (.t 9)),o1 14 (.ext 1 (.t 9)),o1 15 (.ext 2 (.t 9)),o1 6 (.al 69 [.sl0,.cv (.map none)]),
  (o3 (.st 2 (.t 6) (.t 13))),
  (mt 7 14),
  (mt 8 15)]
abbrev CJ:List AO:=
 [(mt 16 8),o1 17 (.bin .neq (.t 16) (ci 0))]
abbrev CI:List AO:=
 [(mt 18 8),o1 4 (.mv (ci 0)),
  (mt 5 18)]
abbrev CH:List AO:=
 [o1 19 (.ld 2 true (.t 6)),
  (mt 20 7),o1 21 (.ld 2 true (.t 6)),o1 22 (.mf 38 [.t 21] []),
  (o2 23 33 [.t 19,.t 20,.t 22,(ci 0)]),
  (o2 24 32 [.t 23]),o1 25 (.ext 0 (.t 24)),o1 26 (.ext 1 (.t 24)),
  (mt 4 25),
  (mt 5 26)]
abbrev CN:AF:=⟨27,(.seq (.reg CL) (.seq (.reg CK) (.seq (.seq (.reg CJ) (.cond (.t 17) (.seq (.reg CI) .ret) .skip)) (.seq (.reg CH) .ret)))),[.mv (.t 4),.mv (.t 5)]⟩
theorem CM:ab Tryz.prog (aa Tryz.prog 18) 18=some CN:=by kernel_rfl
/-! compactorref21.Emits-/
abbrev CE:List AO:=
 [o1 2 (.bx 25 0 (.t 0)),o1 3 (.bx 44 0 (.t 1)),o1 4 (.mv (ci 0)),o1 5 (.mv (ci 0))]
abbrev CD:List AO:=
 [o1 9 (.ld 3 true (.t 2)),o1 10 (.ld 4 true (.t 3)),
  (o2 11 35 [.t 9,.t 10]),
  (mt 8 11),o1 12 (.ext 0 (.t 8)),o1 13 (.ext 1 (.t 8)),
  (mt 6 12),
  (mt 7 13)]
abbrev CC:List AO:=
 [(mt 14 7),o1 15 (.bin .neq (.t 14) (ci 0))]
abbrev CB:List AO:=
 [(mt 16 7),o1 4 (.mv (ci 0)),
  (mt 5 16)]
abbrev CA:List AO:=
 [(mt 17 6),o1 18 (.fa 2 (.t 2)),o1 19 (.ld 1 false (.t 18)),o1 20 (.ld 4 true (.t 3)),
  (o2 21 39 [.t 17,.t 19,.t 20]),
  (o2 22 36 [.t 21]),o1 23 (.ext 0 (.t 22)),o1 24 (.ext 1 (.t 22)),
  (mt 4 23),
  (mt 5 24)]
abbrev CG:AF:=⟨25,(.seq (.reg CE) (.seq (.reg CD) (.seq (.seq (.reg CC) (.cond (.t 15) (.seq (.reg CB) .ret) .skip)) (.seq (.reg CA) .ret)))),[.mv (.t 4),.mv (.t 5)]⟩
theorem CF:ab Tryz.prog (aa Tryz.prog 19) 19=some CG:=by kernel_rfl
/-! compactorref15.Shallow-/
abbrev Cx:List AO:=
 [o1 2 (.mv (.c (.b false)))]
abbrev Cw:List AO:=
 [o1 3 (.mv (.c .sl0))]
abbrev Cu:List AO:=
 [o1 4 (.mv (ci 0))]
abbrev Ct:List AO:=
 [o1 5 (.mv (ci 0))]
abbrev Cs:List AO:=
 [(mt 7 5),
  (mt 8 0),o1 9 (.len (.t 8)),o1 10 (.bin .lss (.t 7) (.t 9)),
  (mt 11 10),
  (o5 12 11 (.mv (.t 4))),
  (o5 13 11 (.bin .leq (.t 12) (ci 3))),o1 14 (.pick (.t 11) (.t 13) (.c (.b false)))]
abbrev Cr:List AO:=
 [(mt 17 0),
  (mt 18 5),o1 19 (.ia 2 (.t 17) (.t 18)),o1 20 (.fa 0 (.t 19)),o1 21 (.ld 1 false (.t 20))]
abbrev Cq:List AO:=
 [o1 23 (.bin .eql (.t 21) (ci 29)),
  (mt 22 23)]
abbrev Cp:List AO:=
 [(mt 24 3),o1 25 (.bs 4 1 1 [.b false] [(0,1,(.c (.b true)))]),o1 26 (.app 4 1 1 (.t 24) (.t 25)),
  (mt 27 4),o1 28 (.bin .add (.t 27) (ci 1)),
  (mt 3 26),
  (mt 4 28)]
abbrev Co:List AO:=
 [o1 30 (.bin .eql (.t 21) (ci 27)),
  (mt 29 30)]
abbrev Cn:List AO:=
 [(mt 31 3),o1 32 (.bs 4 1 1 [.b false] [(0,1,(.c (.b false)))]),o1 33 (.app 4 1 1 (.t 31) (.t 32)),
  (mt 3 33)]
abbrev qW:List AO:=
 [o1 35 (.bin .eql (.t 21) (ci 31)),
  (mt 34 35)]
abbrev qV:List AO:=
 [(mt 36 3),o1 37 (.len (.t 36)),o1 38 (.bin .sub (.t 37) (ci 1)),
  (mt 6 38)]
abbrev qU:List AO:=
 [(mt 39 6),o1 40 (.bin .geq (.t 39) (ci 0))]
abbrev qT:List AO:=
 [(mt 41 3),
  (mt 42 6),o1 43 (.ia 1 (.t 41) (.t 42)),o1 44 (.ld 1 false (.t 43))]
abbrev qS:List AO:=
 [(mt 45 4),o1 46 (.bin .sub (.t 45) (ci 1)),
  (mt 4 46)]
abbrev qR:List AO:=
 [(mt 47 3),
  (mt 48 6),o1 49 (.sl 1 (.t 47) none (some (.t 48))),
  (mt 3 49)]
abbrev qZ:AC:=
 (.seq (.reg Cq) (.cond (.t 22) (.reg Cp) (.seq (.reg Co) (.cond (.t 29) (.reg Cn) (.seq (.reg qW) (.cond (.t 34) (.seq (.reg qV) (.seq (.reg qU) (.cond (.t 40) (.seq (.seq (.reg qT) (.cond (.t 44) (.reg qS) .skip)) (.reg qR)) .skip))) .skip))))))
abbrev qY:AC:=
 (.seq (.reg Cr) (.block 2 qZ))
abbrev qQ:List AO:=
 [(mt 15 5),o1 16 (.bin .add (.t 15) (ci 1)),
  (mt 5 16)]
abbrev q8:AC:=
 (.seq (.seq (.reg Cs) (.cond (.t 14) .skip (.exit 0))) (.seq (.block 1 qY) (.reg qQ)))
abbrev qX:AC:=
 (.loop q8)
abbrev qP:List AO:=
 [(mt 50 4),o1 51 (.bin .leq (.t 50) (ci 3)),
  (mt 2 51)]
abbrev Cz:AF:=⟨52,(.seq (.reg Cx) (.seq (.reg Cw) (.seq (.reg Cu) (.seq (.seq (.reg Ct) (.block 0 qX)) (.seq (.reg qP) .ret))))),[.mv (.t 2)]⟩
theorem Cy:ab Tryz.prog (aa Tryz.prog 20) 20=some Cz:=by kernel_rfl
/-! compactorref15.Form-/
abbrev Cj:List AO:=
 [o1 1 (.bx 25 0 (.t 0)),o1 2 (.mv (ci 0))]
abbrev Ci:List AO:=
 [o1 7 (.fa 0 (.t 1)),o1 8 (.ld 1 false (.t 7)),o1 9 (.len (.t 8)),o1 10 (.bin .gtr (.t 9) (ci 8))]
abbrev Ch:List AO:=
 [o1 2 (.mv (ci 6))]
abbrev Cg:List AO:=
 [o1 3 (.mv (ci 0))]
abbrev Cf:List AO:=
 [o1 4 (.mv (ci 0))]
abbrev Ce:List AO:=
 [(mt 11 4),o1 12 (.fa 0 (.t 1)),o1 13 (.ld 1 false (.t 12)),o1 14 (.len (.t 13)),o1 15 (.bin .lss (.t 11) (.t 14))]
abbrev Cd:List AO:=
 [o1 18 (.fa 0 (.t 1)),o1 19 (.ld 1 false (.t 18)),
  (mt 20 4),o1 21 (.ia 2 (.t 19) (.t 20)),o1 22 (.fa 1 (.t 21)),o1 23 (.ld 1 false (.t 22)),o1 24 (.bin .lss (.t 23) (ci 1)),
  (mt 25 24),
  (o4 26 25 (.fa 0 (.t 1))),
  (o4 27 25 (.ld 1 false (.t 26))),
  (o4 28 25 (.mv (.t 4))),
  (o4 29 25 (.ia 2 (.t 27) (.t 28))),
  (o4 30 25 (.fa 1 (.t 29))),
  (o4 31 25 (.ld 1 false (.t 30))),
  (o4 32 25 (.bin .gtr (.t 31) (ci 65536))),o1 33 (.pick (.t 25) (.c (.b true)) (.t 32))]
abbrev Cc:List AO:=
 [o1 2 (.mv (ci 2))]
abbrev Cb:List AO:=
 [(mt 34 3),o1 35 (.fa 0 (.t 1)),o1 36 (.ld 1 false (.t 35)),
  (mt 37 4),o1 38 (.ia 2 (.t 36) (.t 37)),o1 39 (.fa 1 (.t 38)),o1 40 (.ld 1 false (.t 39)),o1 41 (.bin .add (.t 34) (.t 40)),
  (mt 3 41)]
abbrev Cl:AC:=
 (.seq (.seq (.reg Cd) (.cond (.t 33) (.seq (.reg Cc) .ret) .skip)) (.reg Cb))
abbrev qJ:List AO:=
 [(mt 16 4),o1 17 (.bin .add (.t 16) (ci 1)),
  (mt 4 17)]
abbrev qO:AC:=
 (.seq (.seq (.reg Ce) (.cond (.t 15) .skip (.exit 0))) (.seq (.block 1 Cl) (.reg qJ)))
abbrev qM:AC:=
 (.loop qO)
abbrev qI:List AO:=
 [(mt 42 3),o1 43 (.bin .gtr (.t 42) (ci 65536)),
  (mt 44 43),
  (o4 45 44 (.fa 1 (.t 1))),
  (o4 46 44 (.ld 1 false (.t 45))),
  (o4 47 44 (.bin .lss (.t 46) (ci 0))),o1 48 (.pick (.t 44) (.c (.b true)) (.t 47)),
  (mt 49 48),
  (o4 50 49 (.fa 1 (.t 1))),
  (o4 51 49 (.ld 1 false (.t 50))),
  (o4 52 49 (.bin .gtr (.t 51) (ci 16))),o1 53 (.pick (.t 49) (.c (.b true)) (.t 52))]
abbrev qH:List AO:=
 [o1 2 (.mv (ci 2))]
abbrev qG:List AO:=
 [o1 54 (.fa 2 (.t 1)),o1 55 (.ld 1 false (.t 54)),o1 56 (.len (.t 55)),o1 57 (.bin .gtr (.t 56) (ci 1024))]
abbrev qF:List AO:=
 [o1 2 (.mv (ci 6))]
abbrev qE:List AO:=
 [o1 5 (.mv (ci 0))]
abbrev qD:List AO:=
 [(mt 58 5),o1 59 (.fa 2 (.t 1)),o1 60 (.ld 1 false (.t 59)),o1 61 (.len (.t 60)),o1 62 (.bin .lss (.t 58) (.t 61))]
abbrev qC:List AO:=
 [o1 65 (.fa 2 (.t 1)),o1 66 (.ld 1 false (.t 65)),
  (mt 67 5),o1 68 (.ia 2 (.t 66) (.t 67)),o1 69 (.ld 2 true (.t 68)),
  (o2 70 51 [.t 69]),
  (mt 6 70)]
abbrev qB:List AO:=
 [(mt 71 6),o1 72 (.bin .neq (.t 71) (ci 0))]
abbrev qA:List AO:=
 [(mt 73 6),
  (mt 2 73)]
abbrev qL:AC:=
 (.seq (.reg qC) (.seq (.reg qB) (.cond (.t 72) (.seq (.reg qA) .ret) .skip)))
abbrev qz:List AO:=
 [(mt 63 5),o1 64 (.bin .add (.t 63) (ci 1)),
  (mt 5 64)]
abbrev qN:AC:=
 (.seq (.seq (.reg qD) (.cond (.t 62) .skip (.exit 2))) (.seq (.block 3 qL) (.reg qz)))
abbrev qK:AC:=
 (.loop qN)
abbrev qy:List AO:=
 [o1 2 (.mv (ci 0))]
abbrev Cm:AF:=⟨74,(.seq (.reg Cj) (.seq (.seq (.reg Ci) (.cond (.t 10) (.seq (.reg Ch) .ret) .skip)) (.seq (.reg Cg) (.seq (.seq (.reg Cf) (.block 0 qM)) (.seq (.seq (.reg qI) (.cond (.t 53) (.seq (.reg qH) .ret) .skip)) (.seq (.seq (.reg qG) (.cond (.t 57) (.seq (.reg qF) .ret) .skip)) (.seq (.seq (.reg qE) (.block 2 qK)) (.seq (.reg qy) .ret)))))))),[.mv (.t 2)]⟩
theorem Ck:ab Tryz.prog (aa Tryz.prog 25) 25=some Cm:=by kernel_rfl
/-! compactorref21.sum-/
abbrev B8:List AO:=
 [o1 4 (.mv (ci 0))]
abbrev B7:List AO:=
 [(mt 5 0),o1 6 (.bin .lss (.t 5) (ci 0)),
  (mt 7 6),
  (o4 8 7 (.mv (.t 0))),
  (o4 9 7 (.bin .gtr (.t 8) (ci 281474976710656))),o1 10 (.pick (.t 7) (.c (.b true)) (.t 9)),
  (mt 11 10),
  (o4 12 11 (.mv (.t 1))),
  (o4 13 11 (.bin .lss (.t 12) (ci 0))),o1 14 (.pick (.t 11) (.c (.b true)) (.t 13)),
  (mt 15 14),
  (o4 16 15 (.mv (.t 1))),
  (o4 17 15 (.bin .gtr (.t 16) (ci 281474976710656))),o1 18 (.pick (.t 15) (.c (.b true)) (.t 17))]
abbrev B6:List AO:=
 [o1 4 (.mv (ci 281474976710656))]
abbrev B5:List AO:=
 [(mt 19 0),
  (mt 20 1),o1 21 (.bin .add (.t 19) (.t 20)),⟨some 22,none,.mo (.mi (.t 21) (ci 281474976710656))⟩,
  (mt 4 22)]
abbrev Ca:AF:=⟨23,(.seq (.reg B8) (.seq (.seq (.reg B7) (.cond (.t 18) (.seq (.reg B6) .ret) .skip)) (.seq (.reg B5) .ret))),[.mv (.t 4)]⟩
theorem B9:ab Tryz.prog (aa Tryz.prog 27) 27=some Ca:=by kernel_rfl
/-! compactorref21.formed-/
abbrev B2:List AO:=
 [o1 1 (.bx 34 0 (.t 0)),o1 2 (.mv (.c (.b false)))]
abbrev B1:List AO:=
 [o1 3 (.fa 0 (.t 1)),o1 4 (.ld 1 false (.t 3)),o1 5 (.bin .geq (.t 4) (ci 0)),
  (mt 6 5),
  (o5 7 6 (.fa 0 (.t 1))),
  (o5 8 6 (.ld 1 false (.t 7))),
  (o5 9 6 (.bin .leq (.t 8) (ci 281474976710656))),o1 10 (.pick (.t 6) (.t 9) (.c (.b false))),
  (mt 11 10),
  (o5 12 11 (.fa 1 (.t 1))),
  (o5 13 11 (.ld 1 false (.t 12))),
  (o5 14 11 (.bin .geq (.t 13) (ci 0))),o1 15 (.pick (.t 11) (.t 14) (.c (.b false))),
  (mt 16 15),
  (o5 17 16 (.fa 1 (.t 1))),
  (o5 18 16 (.ld 1 false (.t 17))),
  (o5 19 16 (.bin .leq (.t 18) (ci 281474976710656))),o1 20 (.pick (.t 16) (.t 19) (.c (.b false))),
  (mt 2 20)]
abbrev B4:AF:=⟨21,(.seq (.reg B2) (.seq (.reg B1) .ret)),[.mv (.t 2)]⟩
theorem B3:ab Tryz.prog (aa Tryz.prog 29) 29=some B4:=by kernel_rfl
/-! compactorref20.Few-/
abbrev Aq:List AO:=
 [o1 1 (.bx 44 0 (.t 0)),o1 2 (.mv (.c (.b false)))]
abbrev Ap:List AO:=
 [o1 3 (.mv (ci 0))]
abbrev Ao:List AO:=
 [(mt 4 3),o1 5 (.fa 3 (.t 1)),o1 6 (.ld 1 false (.t 5)),o1 7 (.len (.t 6)),o1 8 (.bin .lss (.t 4) (.t 7)),
  (mt 9 8),
  (o5 10 9 (.mv (.t 3))),
  (o5 11 9 (.bin .lss (.t 10) (ci 60))),o1 12 (.pick (.t 9) (.t 11) (.c (.b false)))]
abbrev An:List AO:=
 [o1 15 (.fa 3 (.t 1)),o1 16 (.ld 1 false (.t 15)),
  (mt 17 3),o1 18 (.ia 3 (.t 16) (.t 17)),o1 19 (.fa 2 (.t 18)),o1 20 (.ld 1 false (.t 19)),o1 21 (.len (.t 20)),o1 22 (.bin .gtr (.t 21) (ci 40))]
abbrev Am:List AO:=
 [o1 2 (.mv (.c (.b false)))]
abbrev Av:AC:=
 (.seq (.reg An) (.cond (.t 22) (.seq (.reg Am) .ret) .skip))
abbrev Al:List AO:=
 [(mt 13 3),o1 14 (.bin .add (.t 13) (ci 1)),
  (mt 3 14)]
abbrev Aw:AC:=
 (.seq (.seq (.reg Ao) (.cond (.t 12) .skip (.exit 0))) (.seq (.block 1 Av) (.reg Al)))
abbrev Au:AC:=
 (.loop Aw)
abbrev Ak:List AO:=
 [o1 23 (.fa 3 (.t 1)),o1 24 (.ld 1 false (.t 23)),o1 25 (.len (.t 24)),o1 26 (.bin .leq (.t 25) (ci 60)),
  (mt 2 26)]
abbrev qn:AF:=⟨27,(.seq (.reg Aq) (.seq (.seq (.reg Ap) (.block 0 Au)) (.seq (.reg Ak) .ret))),[.mv (.t 2)]⟩
theorem Ar:ab Tryz.prog (aa Tryz.prog 30) 30=some qn:=by kernel_rfl
/-! compactorref21.check-/
abbrev Ah:List AO:=
 [o1 2 (.bx 25 0 (.t 0)),o1 3 (.bx 44 0 (.t 1)),o1 4 (.mv (.c .sl0)),o1 5 (.mv (ci 0))]
abbrev Ag:List AO:=
 [o1 16 (.ld 3 true (.t 2)),
  (o2 17 55 [.t 16]),
  (mt 15 17),o1 18 (.ext 0 (.t 15)),o1 19 (.ext 1 (.t 15)),
  (mt 6 18),
  (mt 7 19)]
abbrev Af:List AO:=
 [(mt 20 7),o1 21 (.bin .neq (.t 20) (ci 0))]
abbrev Ae:List AO:=
 [(mt 22 7),o1 4 (.mv (.c .sl0)),
  (mt 5 22)]
abbrev Ad:List AO:=
 [o1 24 (.fa 2 (.t 2)),o1 25 (.ld 1 false (.t 24)),
  (o2 26 56 [.t 25]),
  (mt 23 26),o1 27 (.ext 0 (.t 23)),o1 28 (.ext 1 (.t 23)),
  (mt 8 27),
  (mt 9 28)]
abbrev Ac:List AO:=
 [(mt 29 8),o1 30 (.len (.t 29)),o1 31 (.fa 3 (.t 3)),o1 32 (.ld 1 false (.t 31)),o1 33 (.len (.t 32)),o1 34 (.bin .neq (.t 30) (.t 33))]
abbrev Ab:List AO:=
 [o1 4 (.mv (.c .sl0)),o1 5 (.mv (ci 23))]
abbrev Aa:List AO:=
 [o1 10 (.mv (ci 0))]
abbrev z9:List AO:=
 [(mt 35 10),
  (mt 36 8),o1 37 (.len (.t 36)),o1 38 (.bin .lss (.t 35) (.t 37))]
abbrev Aj:List (Nat×AO):=
 [(2,(o1 41 (.fa 3 (.t 3)))),
  (2,(mt 43 10)),
  (2,(mt 47 8)),
  (2,(mt 48 10)),(2,(o1 49 (.ia 1 (.t 47) (.t 48)))),(1,(o1 42 (.ld 1 false (.t 41)))),(2,(o1 44 (.ia 3 (.t 42) (.t 43)))),(2,(o1 45 (.fa 0 (.t 44)))),(1,(o1 46 (.ld 1 false (.t 45)))),(1,(o1 50 (.ld 1 false (.t 49)))),(2,(o1 51 (.bin .neq (.t 46) (.t 50))))]
abbrev nH:List AO:=
 [o1 4 (.mv (.c .sl0)),o1 5 (.mv (ci 23))]
abbrev nL:AC:=
 (.seq (.mix Aj) (.cond (.t 51) (.seq (.reg nH) .ret) .skip))
abbrev nG:List AO:=
 [(mt 39 10),o1 40 (.bin .add (.t 39) (ci 1)),
  (mt 10 40)]
abbrev nN:AC:=
 (.seq (.seq (.reg z9) (.cond (.t 38) .skip (.exit 0))) (.seq (.block 1 nL) (.reg nG)))
abbrev nK:AC:=
 (.loop nN)
abbrev nF:List AO:=
 [o1 11 (.mv (ci 0))]
abbrev nC:List AO:=
 [(mt 52 11),
  (mt 53 8),o1 54 (.len (.t 53)),o1 55 (.bin .lss (.t 52) (.t 54))]
abbrev nB:List AO:=
 [o1 58 (.fa 3 (.t 3)),o1 59 (.ld 1 false (.t 58)),
  (mt 60 11),o1 61 (.ia 3 (.t 59) (.t 60)),o1 62 (.fa 1 (.t 61)),o1 63 (.ld 1 false (.t 62)),o1 64 (.bin .lss (.t 63) (ci 0)),
  (mt 65 64),
  (o4 66 65 (.fa 3 (.t 3))),
  (o4 67 65 (.ld 1 false (.t 66))),
  (o4 68 65 (.mv (.t 11))),
  (o4 69 65 (.ia 3 (.t 67) (.t 68))),
  (o4 70 65 (.fa 1 (.t 69))),
  (o4 71 65 (.ld 1 false (.t 70))),
  (o4 72 65 (.bin .gtr (.t 71) (ci 65536))),o1 73 (.pick (.t 65) (.c (.b true)) (.t 72))]
abbrev nA:List AO:=
 [o1 4 (.mv (.c .sl0)),o1 5 (.mv (ci 2))]
abbrev nJ:AC:=
 (.seq (.reg nB) (.cond (.t 73) (.seq (.reg nA) .ret) .skip))
abbrev nz:List AO:=
 [(mt 56 11),o1 57 (.bin .add (.t 56) (ci 1)),
  (mt 11 57)]
abbrev nM:AC:=
 (.seq (.seq (.reg nC) (.cond (.t 55) .skip (.exit 2))) (.seq (.block 3 nJ) (.reg nz)))
abbrev nI:AC:=
 (.loop nM)
abbrev ny:List AO:=
 [o1 75 (.fa 2 (.t 2)),o1 76 (.ld 1 false (.t 75)),
  (o2 77 57 [.t 76]),
  (mt 74 77),o1 78 (.ext 0 (.t 74)),o1 79 (.ext 1 (.t 74)),o1 80 (.ext 2 (.t 74)),
  (mt 12 78),
  (mt 13 79),
  (mt 14 80)]
abbrev nw:List AO:=
 [(mt 81 12),
  (mt 4 81),o1 5 (.mv (ci 0))]
abbrev qm:AF:=⟨82,(.seq (.reg Ah) (.seq (.seq (.reg Ag) (.seq (.reg Af) (.cond (.t 21) (.seq (.reg Ae) .ret) .skip))) (.seq (.reg Ad) (.seq (.seq (.reg Ac) (.cond (.t 34) (.seq (.reg Ab) .ret) .skip)) (.seq (.seq (.reg Aa) (.block 0 nK)) (.seq (.seq (.reg nF) (.block 2 nI)) (.seq (.reg ny) (.seq (.reg nw) .ret)))))))),[.mv (.t 4),.mv (.t 5)]⟩
theorem Ai:ab Tryz.prog (aa Tryz.prog 35) 35=some qm:=by kernel_rfl
/-! compactorref21.bounded-/
abbrev z7:List AO:=
 [o1 2 (.mv (ci 0)),o1 3 (.mv (ci 0))]
abbrev z6:List AO:=
 [(mt 4 0),o1 5 (.bin .gtr (.t 4) (ci 281474976710656))]
abbrev z5:List AO:=
 [o1 2 (.mv (ci 0)),o1 3 (.mv (ci 18))]
abbrev z4:List AO:=
 [(mt 6 0),
  (mt 2 6),o1 3 (.mv (ci 0))]
abbrev ql:AF:=⟨7,(.seq (.reg z7) (.seq (.seq (.reg z6) (.cond (.t 5) (.seq (.reg z5) .ret) .skip)) (.seq (.reg z4) .ret))),[.mv (.t 2),.mv (.t 3)]⟩
theorem z8:ab Tryz.prog (aa Tryz.prog 36) 36=some ql:=by kernel_rfl
/-! compactorref21.steps-/
abbrev zY:List AO:=
 [o1 3 (.bx 44 0 (.t 1)),o1 4 (.mv (ci 0))]
abbrev zX:List AO:=
 [o1 5 (.mv (ci 0))]
abbrev zW:List AO:=
 [o1 6 (.mv (ci 0))]
abbrev zV:List AO:=
 [(mt 8 6),
  (mt 9 0),o1 10 (.len (.t 9)),o1 11 (.bin .lss (.t 8) (.t 10))]
abbrev zU:List AO:=
 [(mt 14 0),
  (mt 15 6),o1 16 (.ia 5 (.t 14) (.t 15)),o1 17 (.ld 5 true (.t 16)),o1 7 (.al 106 [.n .i64 0,.n .i64 0,.n .i64 0,.sl0,.sl0]),
  (o3 (.st 5 (.t 7) (.t 17)))]
abbrev zT:List AO:=
 [o1 18 (.fa 0 (.t 7)),o1 19 (.ld 1 false (.t 18))]
abbrev zS:List AO:=
 [o1 29 (.bin .eql (.t 19) (ci 27)),
  (mt 28 29)]
abbrev z3:List (Nat×AO):=
 [(2,(mt 30 5)),(2,(o1 31 (.bin .add (.t 30) (ci 1)))),(2,(o1 32 (.fa 3 (.t 7)))),(2,(o1 36 (.fa 4 (.t 7)))),(1,(o1 33 (.ld 1 false (.t 32)))),(1,(o1 34 (.ld 4 true (.t 3)))),(1,(o1 37 (.ld 1 false (.t 36)))),(1,(o1 38 (.ld 4 true (.t 3)))),
  (0,(o2 35 37 [.t 33,.t 34])),
  (3,(o2 39 37 [.t 37,.t 38])),(3,⟨some 40,none,.mo (.mx (.t 35) (.t 39))⟩),(2,(o1 41 (.bin .add (.t 31) (.t 40)))),
  (3,(o2 42 58 [.t 41])),
  (2,(mt 5 42))]
abbrev zR:List AO:=
 [o1 44 (.bin .eql (.t 19) (ci 29)),
  (mt 43 44)]
abbrev z0:List (Nat×AO):=
 [(2,(mt 45 5)),(2,(o1 46 (.bin .add (.t 45) (ci 1)))),(2,(o1 47 (.fa 3 (.t 7)))),(2,(o1 54 (.fa 1 (.t 7)))),(1,(o1 48 (.ld 1 false (.t 47)))),(1,(o1 49 (.ld 4 true (.t 3)))),(1,(o1 53 (.ld 4 true (.t 3)))),(1,(o1 55 (.ld 1 false (.t 54)))),
  (0,(o2 50 37 [.t 48,.t 49])),(2,(o1 51 (.bin .add (.t 50) (ci 1)))),
  (0,(o2 52 58 [.t 51])),
  (3,(o2 56 60 [.t 53,.t 55])),
  (3,(o2 57 59 [.t 52,.t 56])),(2,(o1 58 (.bin .add (.t 46) (.t 57)))),
  (3,(o2 59 58 [.t 58])),
  (2,(mt 5 59))]
abbrev nq:List AO:=
 [(mt 20 5),o1 21 (.fa 2 (.t 7)),o1 22 (.ld 1 false (.t 21)),o1 23 (.bin .add (.t 20) (.t 22)),o1 24 (.fa 1 (.t 7)),o1 25 (.ld 1 false (.t 24)),o1 26 (.bin .sub (.t 23) (.t 25)),
  (o2 27 58 [.t 26]),
  (mt 5 27)]
abbrev nu:AC:=
 (.seq (.reg zS) (.cond (.t 28) (.mix z3) (.seq (.reg zR) (.cond (.t 43) (.mix z0) (.reg nq)))))
abbrev ns:AC:=
 (.seq (.reg zU) (.seq (.reg zT) (.block 2 nu)))
abbrev np:List AO:=
 [(mt 12 6),o1 13 (.bin .add (.t 12) (ci 1)),
  (mt 6 13)]
abbrev nv:AC:=
 (.seq (.seq (.reg zV) (.cond (.t 11) .skip (.exit 0))) (.seq (.block 1 ns) (.reg np)))
abbrev nr:AC:=
 (.loop nv)
abbrev nk:List AO:=
 [(mt 60 5),
  (mt 4 60)]
abbrev qk:AF:=⟨61,(.seq (.reg zY) (.seq (.reg zX) (.seq (.seq (.reg zW) (.block 0 nr)) (.seq (.reg nk) .ret)))),[.mv (.t 4)]⟩
theorem zZ:ab Tryz.prog (aa Tryz.prog 37) 37=some qk:=by kernel_rfl
/-! cost.bounds.emits-/
abbrev zN:List AO:=
 [o1 3 (.bx 69 0 (.t 0)),o1 6 (.mv (ci 0))]
abbrev zM:List AO:=
 [o1 7 (.mv (ci 0))]
abbrev zL:List AO:=
 [o1 10 (.fa 0 (.t 3)),o1 11 (.ld 1 false (.t 10)),
  (mt 12 1),
  (mt 13 2),o1 14 (.sl 2 (.t 11) (some (.t 12)) (some (.t 13))),o1 15 (.len (.t 14)),o1 16 (.mv (ci 0))]
abbrev zK:List AO:=
 [o1 17 (.bin .lss (.t 16) (.t 15))]
abbrev zJ:List AO:=
 [o1 18 (.ia 2 (.t 14) (.t 16)),o1 19 (.ld 2 true (.t 18)),o1 9 (.al 82 [.n .i64 0,.n .u32 0]),
  (o3 (.st 2 (.t 9) (.t 19)))]
abbrev zI:List AO:=
 [o1 20 (.fa 0 (.t 9)),o1 21 (.ld 1 false (.t 20)),o1 22 (.bin .eql (.t 21) (ci 34))]
abbrev zH:List AO:=
 [(mt 23 7),o1 24 (.bin .add (.t 23) (ci 1)),
  (mt 7 24)]
abbrev zP:AC:=
 (.seq (.reg zJ) (.seq (.reg zI) (.cond (.t 22) (.reg zH) .skip)))
abbrev zG:List AO:=
 [o1 25 (.bin .add (.t 16) (ci 1)),
  (mt 16 25)]
abbrev zQ:AC:=
 (.seq (.reg zK) (.seq (.cond (.t 17) .skip (.exit 0)) (.seq (.block 1 zP) (.reg zG))))
abbrev nj:AC:=
 (.loop zQ)
abbrev ni:List AO:=
 [(mt 26 7),
  (mt 6 26)]
abbrev qj:AF:=⟨27,(.seq (.reg zN) (.seq (.reg zM) (.seq (.seq (.reg zL) (.block 0 nj)) (.seq (.reg ni) .ret)))),[.mv (.t 6)]⟩
theorem zO:ab Tryz.prog (aa Tryz.prog 38) 38=some qj:=by kernel_rfl
/-! compactorref21.emits-/
abbrev zC:List AO:=
 [o1 5 (.bx 44 0 (.t 2)),o1 6 (.mv (ci 0))]
abbrev zB:List AO:=
 [o1 7 (.mv (ci 0))]
abbrev zA:List AO:=
 [o1 8 (.mv (ci 0))]
abbrev zz:List AO:=
 [(mt 11 8),
  (mt 12 0),o1 13 (.len (.t 12)),o1 14 (.bin .lss (.t 11) (.t 13))]
abbrev zy:List AO:=
 [(mt 17 0),
  (mt 18 8),o1 19 (.ia 5 (.t 17) (.t 18)),o1 20 (.ld 5 true (.t 19)),o1 9 (.al 106 [.n .i64 0,.n .i64 0,.n .i64 0,.sl0,.sl0]),
  (o3 (.st 5 (.t 9) (.t 20)))]
abbrev zx:List AO:=
 [o1 21 (.fa 0 (.t 9)),o1 22 (.ld 1 false (.t 21))]
abbrev zw:List AO:=
 [o1 41 (.bin .eql (.t 22) (ci 27)),
  (mt 40 41)]
abbrev zF:List (Nat×AO):=
 [(2,(mt 42 7)),(2,(o1 43 (.fa 3 (.t 9)))),
  (2,(mt 45 1)),(2,(o1 48 (.fa 4 (.t 9)))),
  (2,(mt 50 1)),(1,(o1 44 (.ld 1 false (.t 43)))),(1,(o1 46 (.ld 4 true (.t 5)))),(1,(o1 49 (.ld 1 false (.t 48)))),(1,(o1 51 (.ld 4 true (.t 5)))),
  (0,(o2 47 39 [.t 44,.t 45,.t 46])),
  (3,(o2 52 39 [.t 49,.t 50,.t 51])),(3,⟨some 53,none,.mo (.mx (.t 47) (.t 52))⟩),(2,(o1 54 (.bin .add (.t 42) (.t 53)))),
  (3,(o2 55 58 [.t 54])),
  (2,(mt 7 55))]
abbrev zv:List AO:=
 [o1 57 (.bin .eql (.t 22) (ci 29)),
  (mt 56 57)]
abbrev zE:List (Nat×AO):=
 [(2,(mt 58 7)),(2,(o1 59 (.fa 3 (.t 9)))),
  (2,(mt 61 1)),(2,(o1 65 (.fa 1 (.t 9)))),(1,(o1 60 (.ld 1 false (.t 59)))),(1,(o1 62 (.ld 4 true (.t 5)))),(1,(o1 64 (.ld 4 true (.t 5)))),(1,(o1 66 (.ld 1 false (.t 65)))),
  (0,(o2 63 39 [.t 60,.t 61,.t 62])),
  (3,(o2 67 60 [.t 64,.t 66])),
  (3,(o2 68 59 [.t 63,.t 67])),(2,(o1 69 (.bin .add (.t 58) (.t 68)))),
  (3,(o2 70 58 [.t 69])),
  (2,(mt 7 70))]
abbrev m7:List AO:=
 [o1 23 (.fa 1 (.t 9)),o1 24 (.ld 1 false (.t 23)),
  (mt 10 24)]
abbrev m6:List AO:=
 [(mt 25 10),o1 26 (.fa 2 (.t 9)),o1 27 (.ld 1 false (.t 26)),o1 28 (.bin .lss (.t 25) (.t 27))]
abbrev mZ:List AO:=
 [(mt 31 1),
  (mt 32 10),o1 33 (.ia 2 (.t 31) (.t 32)),o1 34 (.fa 0 (.t 33)),o1 35 (.ld 1 false (.t 34)),o1 36 (.bin .eql (.t 35) (ci 34))]
abbrev mY:List AO:=
 [(mt 37 7),o1 38 (.bin .add (.t 37) (ci 1)),
  (o2 39 58 [.t 38]),
  (mt 7 39)]
abbrev nf:AC:=
 (.seq (.reg mZ) (.cond (.t 36) (.reg mY) .skip))
abbrev mX:List AO:=
 [(mt 29 10),o1 30 (.bin .add (.t 29) (ci 1)),
  (mt 10 30)]
abbrev nh:AC:=
 (.seq (.seq (.reg m6) (.cond (.t 28) .skip (.exit 3))) (.seq (.block 4 nf) (.reg mX)))
abbrev nb:AC:=
 (.loop nh)
abbrev na:AC:=
 (.seq (.reg zw) (.cond (.t 40) (.mix zF) (.seq (.reg zv) (.cond (.t 56) (.mix zE) (.seq (.reg m7) (.block 3 nb))))))
abbrev m9:AC:=
 (.seq (.reg zy) (.seq (.reg zx) (.block 2 na)))
abbrev mW:List AO:=
 [(mt 15 8),o1 16 (.bin .add (.t 15) (ci 1)),
  (mt 8 16)]
abbrev ng:AC:=
 (.seq (.seq (.reg zz) (.cond (.t 14) .skip (.exit 0))) (.seq (.block 1 m9) (.reg mW)))
abbrev m8:AC:=
 (.loop ng)
abbrev mV:List AO:=
 [(mt 71 7),
  (mt 6 71)]
abbrev qi:AF:=⟨72,(.seq (.reg zC) (.seq (.reg zB) (.seq (.seq (.reg zA) (.block 0 m8)) (.seq (.reg mV) .ret)))),[.mv (.t 6)]⟩
theorem zD:ab Tryz.prog (aa Tryz.prog 39) 39=some qi:=by kernel_rfl
/-! compactorref15.Check-/
abbrev zs:List AO:=
 [o1 1 (.bx 82 0 (.t 0)),o1 2 (.mv (ci 0))]
abbrev zr:List AO:=
 [o1 4 (.fa 0 (.t 1)),o1 5 (.ld 1 false (.t 4)),o1 6 (.bin .lss (.t 5) (ci 0)),
  (mt 7 6),
  (o4 8 7 (.fa 0 (.t 1))),
  (o4 9 7 (.ld 1 false (.t 8))),
  (o4 10 7 (.bin .geq (.t 9) (ci 36))),o1 11 (.pick (.t 7) (.c (.b true)) (.t 10))]
abbrev zq:List AO:=
 [o1 2 (.mv (ci 1))]
abbrev zp:List AO:=
 [o1 3 (.mv (ci 0))]
abbrev zo:List AO:=
 [o1 12 (.fa 0 (.t 1)),o1 13 (.ld 1 false (.t 12))]
abbrev zn:List AO:=
 [o1 15 (.bin .eql (.t 13) (ci 0)),
  (mt 14 15)]
abbrev zm:List AO:=
 [o1 2 (.mv (ci 0))]
abbrev zl:List AO:=
 [o1 17 (.bin .eql (.t 13) (ci 1)),
  (mt 16 17)]
abbrev zk:List AO:=
 [o1 18 (.bin .eql (.t 13) (ci 2)),
  (mt 16 18)]
abbrev zj:List AO:=
 [o1 3 (.mv (ci 15))]
abbrev mT:List AO:=
 [o1 20 (.bin .eql (.t 13) (ci 3)),
  (mt 19 20)]
abbrev mS:List AO:=
 [o1 21 (.bin .eql (.t 13) (ci 4)),
  (mt 19 21)]
abbrev mR:List AO:=
 [o1 3 (.mv (ci 7))]
abbrev mQ:List AO:=
 [o1 23 (.bin .eql (.t 13) (ci 35)),
  (mt 22 23)]
abbrev mP:List AO:=
 [o1 3 (.mv (ci 15))]
abbrev mU:AC:=
 (.seq (.reg zn) (.cond (.t 14) (.seq (.reg zm) .ret) (.seq (.seq (.reg zl) (.cond (.t 16) .skip (.reg zk))) (.cond (.t 16) (.reg zj) (.seq (.seq (.reg mT) (.cond (.t 19) .skip (.reg mS))) (.cond (.t 19) (.reg mR) (.seq (.reg mQ) (.cond (.t 22) (.reg mP) .skip))))))))
abbrev mO:List AO:=
 [o1 24 (.fa 1 (.t 1)),o1 25 (.ld 1 false (.t 24)),o1 26 (.cvi .i64 (.t 25)),
  (mt 27 3),o1 28 (.bin .gtr (.t 26) (.t 27))]
abbrev mN:List AO:=
 [o1 2 (.mv (ci 2))]
abbrev mM:List AO:=
 [o1 2 (.mv (ci 0))]
abbrev qh:AF:=⟨29,(.seq (.reg zs) (.seq (.seq (.reg zr) (.cond (.t 11) (.seq (.reg zq) .ret) .skip)) (.seq (.reg zp) (.seq (.seq (.reg zo) (.block 0 mU)) (.seq (.seq (.reg mO) (.cond (.t 28) (.seq (.reg mN) .ret) .skip)) (.seq (.reg mM) .ret)))))),[.mv (.t 2)]⟩
theorem zt:ab Tryz.prog (aa Tryz.prog 51) 51=some qh:=by kernel_rfl
/-! compactorref20.Check-/
abbrev zh:List AO:=
 [o1 1 (.bx 25 0 (.t 0)),o1 2 (.mv (ci 0)),o1 3 (.mv (ci 0))]
abbrev zg:List AO:=
 [o1 10 (.ld 3 true (.t 1)),
  (o2 11 25 [.t 10]),
  (mt 4 11)]
abbrev zf:List AO:=
 [(mt 12 4),o1 13 (.bin .neq (.t 12) (ci 0))]
abbrev ze:List AO:=
 [(mt 14 4),o1 2 (.mv (ci 0)),
  (mt 3 14)]
abbrev zd:List AO:=
 [o1 16 (.fa 2 (.t 1)),o1 17 (.ld 1 false (.t 16)),
  (o2 18 57 [.t 17]),
  (mt 15 18),o1 19 (.ext 0 (.t 15)),o1 20 (.ext 1 (.t 15)),o1 21 (.ext 2 (.t 15)),
  (mt 5 19),
  (mt 6 20),
  (mt 7 21)]
abbrev zc:List AO:=
 [(mt 22 7),o1 23 (.bin .neq (.t 22) (ci 0))]
abbrev zb:List AO:=
 [(mt 24 6),
  (mt 25 7),
  (mt 2 24),
  (mt 3 25)]
abbrev za:List AO:=
 [o1 8 (.mv (ci 0))]
abbrev y9:List AO:=
 [(mt 26 8),o1 27 (.fa 2 (.t 1)),o1 28 (.ld 1 false (.t 27)),o1 29 (.len (.t 28)),o1 30 (.bin .lss (.t 26) (.t 29))]
abbrev y8:List AO:=
 [o1 33 (.fa 2 (.t 1)),o1 34 (.ld 1 false (.t 33)),
  (mt 35 8),o1 36 (.ia 2 (.t 34) (.t 35)),o1 37 (.ld 2 true (.t 36)),o1 9 (.al 82 [.n .i64 0,.n .u32 0]),
  (o3 (.st 2 (.t 9) (.t 37)))]
abbrev mH:List AO:=
 [o1 38 (.fa 0 (.t 9)),o1 39 (.ld 1 false (.t 38)),o1 40 (.bin .eql (.t 39) (ci 1)),
  (mt 41 40),
  (o4 42 41 (.fa 0 (.t 9))),
  (o4 43 41 (.ld 1 false (.t 42))),
  (o4 44 41 (.bin .eql (.t 43) (ci 2))),o1 45 (.pick (.t 41) (.c (.b true)) (.t 44)),
  (mt 46 45),
  (o5 47 46 (.fa 1 (.t 9))),
  (o5 48 46 (.ld 1 false (.t 47))),
  (o5 49 46 (.cvi .i64 (.t 48))),
  (o5 50 46 (.fa 1 (.t 1))),
  (o5 51 46 (.ld 1 false (.t 50))),
  (o5 52 46 (.bin .geq (.t 49) (.t 51))),o1 53 (.pick (.t 46) (.t 52) (.c (.b false))),
  (mt 54 53),
  (o4 55 54 (.fa 0 (.t 9))),
  (o4 56 54 (.ld 1 false (.t 55))),
  (o4 57 54 (.bin .eql (.t 56) (ci 3))),
  (o4 58 54 (.mv (.t 57))),
  (o4 59 58 (.fa 0 (.t 9))),
  (o4 60 58 (.ld 1 false (.t 59))),
  (o4 61 58 (.bin .eql (.t 60) (ci 4))),
  (o4 62 54 (.pick (.t 58) (.c (.b true)) (.t 61))),
  (o4 63 54 (.mv (.t 62))),
  (o5 64 63 (.fa 1 (.t 9))),
  (o5 65 63 (.ld 1 false (.t 64))),
  (o5 66 63 (.cvi .i64 (.t 65))),
  (o5 67 63 (.fa 0 (.t 1))),
  (o5 68 63 (.ld 1 false (.t 67))),
  (o5 69 63 (.len (.t 68))),
  (o5 70 63 (.bin .geq (.t 66) (.t 69))),
  (o4 71 54 (.pick (.t 63) (.t 70) (.c (.b false)))),o1 72 (.pick (.t 54) (.c (.b true)) (.t 71))]
abbrev mG:List AO:=
 [(mt 73 8),
  (mt 2 73),o1 3 (.mv (ci 2))]
abbrev mJ:AC:=
 (.seq (.reg y8) (.seq (.reg mH) (.cond (.t 72) (.seq (.reg mG) .ret) .skip)))
abbrev mF:List AO:=
 [(mt 31 8),o1 32 (.bin .add (.t 31) (ci 1)),
  (mt 8 32)]
abbrev mL:AC:=
 (.seq (.seq (.reg y9) (.cond (.t 30) .skip (.exit 0))) (.seq (.block 1 mJ) (.reg mF)))
abbrev mI:AC:=
 (.loop mL)
abbrev mE:List AO:=
 [o1 2 (.mv (ci 0)),o1 3 (.mv (ci 0))]
abbrev qg:AF:=⟨74,(.seq (.reg zh) (.seq (.seq (.reg zg) (.seq (.reg zf) (.cond (.t 13) (.seq (.reg ze) .ret) .skip))) (.seq (.seq (.reg zd) (.seq (.reg zc) (.cond (.t 23) (.seq (.reg zb) .ret) .skip))) (.seq (.seq (.reg za) (.block 0 mI)) (.seq (.reg mE) .ret))))),[.mv (.t 2),.mv (.t 3)]⟩
theorem zi:ab Tryz.prog (aa Tryz.prog 55) 55=some qg:=by kernel_rfl
/-! compactorref18.Loops-/
abbrev yY:List AO:=
 [o1 2 (.mv (.c .sl0)),o1 3 (.mv (ci 0))]
abbrev yX:List AO:=
 [(mt 10 0),
  (o2 11 83 [.t 10]),
  (mt 9 11),o1 12 (.ext 0 (.t 9)),o1 13 (.ext 1 (.t 9)),o1 14 (.ext 2 (.t 9)),
  (mt 4 12),
  (mt 5 13),
  (mt 6 14)]
abbrev yW:List AO:=
 [(mt 15 6),o1 16 (.bin .neq (.t 15) (ci 0))]
abbrev yV:List AO:=
 [(mt 17 6),o1 2 (.mv (.c .sl0)),
  (mt 3 17)]
abbrev yU:List AO:=
 [o1 7 (.mv (.c .sl0))]
abbrev yT:List AO:=
 [o1 8 (.mv (ci 0))]
abbrev yS:List AO:=
 [(mt 18 8),
  (mt 19 0),o1 20 (.len (.t 19)),o1 21 (.bin .lss (.t 18) (.t 20))]
abbrev yR:List AO:=
 [(mt 24 0),
  (mt 25 8),o1 26 (.ia 2 (.t 24) (.t 25)),o1 27 (.fa 0 (.t 26)),o1 28 (.ld 1 false (.t 27)),o1 29 (.bin .eql (.t 28) (ci 29))]
abbrev yQ:List AO:=
 [(mt 30 7),
  (mt 31 8),o1 32 (.bs 3 1 1 [.n .i64 0] [(0,1,(.t 31))]),o1 33 (.app 3 1 8 (.t 30) (.t 32)),
  (mt 7 33)]
abbrev y6:AC:=
 (.seq (.reg yR) (.cond (.t 29) (.reg yQ) .skip))
abbrev mB:List AO:=
 [(mt 22 8),o1 23 (.bin .add (.t 22) (ci 1)),
  (mt 8 23)]
abbrev mD:AC:=
 (.seq (.seq (.reg yS) (.cond (.t 21) .skip (.exit 0))) (.seq (.block 1 y6) (.reg mB)))
abbrev mC:AC:=
 (.loop mD)
abbrev mA:List AO:=
 [(mt 34 7),
  (mt 2 34),o1 3 (.mv (ci 0))]
abbrev qf:AF:=⟨35,(.seq (.reg yY) (.seq (.seq (.reg yX) (.seq (.reg yW) (.cond (.t 16) (.seq (.reg yV) .ret) .skip))) (.seq (.reg yU) (.seq (.seq (.reg yT) (.block 0 mC)) (.seq (.reg mA) .ret))))),[.mv (.t 2),.mv (.t 3)]⟩
theorem yZ:ab Tryz.prog (aa Tryz.prog 56) 56=some qf:=by kernel_rfl
/-! compactorref18.Parse-/
abbrev yO:List AO:=
 [o1 2 (.mv (.c .sl0)),o1 3 (.mv (ci 0)),o1 4 (.mv (ci 0))]
abbrev yN:List AO:=
 [(mt 9 0),
  (o2 10 83 [.t 9]),
  (mt 8 10),o1 11 (.ext 0 (.t 8)),o1 12 (.ext 1 (.t 8)),o1 13 (.ext 2 (.t 8)),
  (mt 5 11),
  (mt 6 12),
  (mt 7 13)]
abbrev yM:List AO:=
 [(mt 14 7),o1 15 (.bin .neq (.t 14) (ci 0))]
abbrev yL:List AO:=
 [(mt 16 6),
  (mt 17 7),o1 2 (.mv (.c .sl0)),
  (mt 3 16),
  (mt 4 17)]
abbrev yK:List AO:=
 [(mt 18 0),
  (mt 19 5),
  (mt 20 0),o1 21 (.len (.t 20)),
  (o2 22 84 [.t 18,.t 19,(ci 0),.t 21]),
  (mt 2 22),o1 3 (.mv (ci 0)),o1 4 (.mv (ci 0))]
abbrev qe:AF:=⟨23,(.seq (.reg yO) (.seq (.reg yN) (.seq (.seq (.reg yM) (.cond (.t 15) (.seq (.reg yL) .ret) .skip)) (.seq (.reg yK) .ret)))),[.mv (.t 2),.mv (.t 3),.mv (.t 4)]⟩
theorem yP:ab Tryz.prog (aa Tryz.prog 57) 57=some qe:=by kernel_rfl
/-! compactorref21.few-/
abbrev yI:List AO:=
 [o1 2 (.mv (ci 0))]
abbrev yH:List AO:=
 [(mt 3 0),⟨some 4,none,.mo (.mi (.t 3) (ci 281474976710657))⟩,
  (mt 2 4)]
abbrev qd:AF:=⟨5,(.seq (.reg yI) (.seq (.reg yH) .ret)),[.mv (.t 2)]⟩
theorem yJ:ab Tryz.prog (aa Tryz.prog 58) 58=some qd:=by kernel_rfl
/-! compactorref21.times-/
abbrev yF:List AO:=
 [o1 4 (.mv (ci 0))]
abbrev yE:List AO:=
 [(mt 5 1),o1 6 (.bin .gtr (.t 5) (ci 0)),
  (mt 7 6),
  (o5 8 7 (.mv (.t 0))),
  (o5 9 7 (.mv (.t 1))),
  (o5 10 7 (.bin .quo (ci 281474976710657) (.t 9))),
  (o5 11 7 (.bin .gtr (.t 8) (.t 10))),o1 12 (.pick (.t 7) (.t 11) (.c (.b false)))]
abbrev yD:List AO:=
 [o1 4 (.mv (ci 281474976710657))]
abbrev yC:List AO:=
 [(mt 13 0),
  (mt 14 1),o1 15 (.bin .mul (.t 13) (.t 14)),
  (o2 16 58 [.t 15]),
  (mt 4 16)]
abbrev qc:AF:=⟨17,(.seq (.reg yF) (.seq (.seq (.reg yE) (.cond (.t 12) (.seq (.reg yD) .ret) .skip)) (.seq (.reg yC) .ret))),[.mv (.t 4)]⟩
theorem yG:ab Tryz.prog (aa Tryz.prog 59) 59=some qc:=by kernel_rfl
/-! compactorref21.most-/
abbrev yw:List AO:=
 [o1 2 (.bx 44 0 (.t 0)),o1 4 (.mv (ci 0))]
abbrev yu:List AO:=
 [o1 5 (.mv (ci 0))]
abbrev yr:List AO:=
 [(mt 6 5),o1 7 (.fa 3 (.t 2)),o1 8 (.ld 1 false (.t 7)),o1 9 (.len (.t 8)),o1 10 (.bin .lss (.t 6) (.t 9))]
abbrev yq:List AO:=
 [o1 13 (.fa 3 (.t 2)),o1 14 (.ld 1 false (.t 13)),
  (mt 15 5),o1 16 (.ia 3 (.t 14) (.t 15)),o1 17 (.fa 0 (.t 16)),o1 18 (.ld 1 false (.t 17)),
  (mt 19 1),o1 20 (.bin .eql (.t 18) (.t 19))]
abbrev yp:List AO:=
 [o1 21 (.fa 3 (.t 2)),o1 22 (.ld 1 false (.t 21)),
  (mt 23 5),o1 24 (.ia 3 (.t 22) (.t 23)),o1 25 (.fa 1 (.t 24)),o1 26 (.ld 1 false (.t 25)),
  (mt 4 26)]
abbrev yA:AC:=
 (.seq (.reg yq) (.cond (.t 20) (.seq (.reg yp) .ret) .skip))
abbrev yo:List AO:=
 [(mt 11 5),o1 12 (.bin .add (.t 11) (ci 1)),
  (mt 5 12)]
abbrev yB:AC:=
 (.seq (.seq (.reg yr) (.cond (.t 10) .skip (.exit 0))) (.seq (.block 1 yA) (.reg yo)))
abbrev yz:AC:=
 (.loop yB)
abbrev yn:List AO:=
 [o1 4 (.mv (ci 0))]
abbrev qb:AF:=⟨27,(.seq (.reg yw) (.seq (.seq (.reg yu) (.block 0 yz)) (.seq (.reg yn) .ret))),[.mv (.t 4)]⟩
theorem yx:ab Tryz.prog (aa Tryz.prog 60) 60=some qb:=by kernel_rfl
/-! verifier.widening$1-/
abbrev yl:List AO:=
 [o1 6 (.mv (.c .sl0)),o1 7 (.mv (ci 0))]
abbrev yk:List AO:=
 [(mt 8 2),
  (mt 9 1),
  (mt 6 8),
  (mt 7 9)]
abbrev qa:AF:=⟨10,(.seq (.reg yl) (.seq (.reg yk) .ret)),[.mv (.t 6),.mv (.t 7)]⟩
theorem ym:ab Tryz.prog (aa Tryz.prog 67) 67=some qa:=by kernel_rfl
/-! compactorref18.partners-/
abbrev yi:List AO:=
 [o1 2 (.mv (.c .sl0)),o1 3 (.mv (ci 0)),o1 4 (.mv (ci 0))]
abbrev yh:List AO:=
 [(mt 10 0),o1 11 (.len (.t 10)),o1 12 (.bin .gtr (.t 11) (ci 1024))]
abbrev yg:List AO:=
 [o1 2 (.mv (.c .sl0)),o1 3 (.mv (ci 0)),o1 4 (.mv (ci 6))]
abbrev yf:List AO:=
 [(mt 13 0),o1 14 (.len (.t 13)),o1 15 (.ms 3 1 8 [.n .i64 0] (.t 14) (.t 14)),
  (mt 5 15)]
abbrev ye:List AO:=
 [o1 6 (.mv (.c .sl0)),o1 7 (.mv (.c .sl0))]
abbrev yd:List AO:=
 [o1 8 (.mv (ci 0))]
abbrev yc:List AO:=
 [(mt 16 8),
  (mt 17 0),o1 18 (.len (.t 17)),o1 19 (.bin .lss (.t 16) (.t 18))]
abbrev yb:List AO:=
 [(mt 22 5),
  (mt 23 8),o1 24 (.ia 1 (.t 22) (.t 23)),
  (o3 (.st 1 (.t 24) (.c (.n .i64 (-1)))))]
abbrev ya:List AO:=
 [(mt 25 6),o1 26 (.len (.t 25)),
  (mt 9 26)]
abbrev x9:List AO:=
 [(mt 27 0),
  (mt 28 8),o1 29 (.ia 2 (.t 27) (.t 28)),o1 30 (.fa 0 (.t 29)),o1 31 (.ld 1 false (.t 30))]
abbrev ml:List AO:=
 [o1 33 (.bin .eql (.t 31) (ci 27)),
  (mt 32 33)]
abbrev mj:List AO:=
 [o1 34 (.bin .eql (.t 31) (ci 29)),
  (mt 32 34)]
abbrev mg:List AO:=
 [(mt 35 9),o1 36 (.bin .eql (.t 35) (ci 8))]
abbrev mc:List AO:=
 [(mt 37 8),o1 2 (.mv (.c .sl0)),
  (mt 3 37),o1 4 (.mv (ci 15))]
abbrev mb:List AO:=
 [(mt 38 6),
  (mt 39 8),o1 40 (.bs 3 1 1 [.n .i64 0] [(0,1,(.t 39))]),o1 41 (.app 3 1 8 (.t 38) (.t 40)),
  (mt 42 7),o1 43 (.bs 3 1 1 [.n .i64 0] [(0,1,(.c (.n .i64 (-1))))]),o1 44 (.app 3 1 8 (.t 42) (.t 43)),
  (mt 6 41),
  (mt 7 44)]
abbrev ma:List AO:=
 [o1 46 (.bin .eql (.t 31) (ci 28)),
  (mt 45 46)]
abbrev l9:List AO:=
 [(mt 47 9),o1 48 (.bin .eql (.t 47) (ci 0)),
  (mt 49 48),
  (o4 50 49 (.mv (.t 0))),
  (o4 51 49 (.mv (.t 6))),
  (o4 52 49 (.mv (.t 9))),
  (o4 53 49 (.bin .sub (.t 52) (ci 1))),
  (o4 54 49 (.ia 1 (.t 51) (.t 53))),
  (o4 55 49 (.ld 1 false (.t 54))),
  (o4 56 49 (.ia 2 (.t 50) (.t 55))),
  (o4 57 49 (.fa 0 (.t 56))),
  (o4 58 49 (.ld 1 false (.t 57))),
  (o4 59 49 (.bin .neq (.t 58) (ci 27))),o1 60 (.pick (.t 49) (.c (.b true)) (.t 59)),
  (mt 61 60),
  (o4 62 61 (.mv (.t 7))),
  (o4 63 61 (.mv (.t 9))),
  (o4 64 61 (.bin .sub (.t 63) (ci 1))),
  (o4 65 61 (.ia 1 (.t 62) (.t 64))),
  (o4 66 61 (.ld 1 false (.t 65))),
  (o4 67 61 (.bin .geq (.t 66) (ci 0))),o1 68 (.pick (.t 61) (.c (.b true)) (.t 67))]
abbrev l8:List AO:=
 [(mt 69 8),o1 2 (.mv (.c .sl0)),
  (mt 3 69),o1 4 (.mv (ci 15))]
abbrev l7:List AO:=
 [(mt 70 7),
  (mt 71 9),o1 72 (.bin .sub (.t 71) (ci 1)),
  (mt 73 8),o1 74 (.ia 1 (.t 70) (.t 72)),
  (o3 (.st 1 (.t 74) (.t 73)))]
abbrev l6:List AO:=
 [(mt 75 5),
  (mt 76 6),
  (mt 77 9),o1 78 (.bin .sub (.t 77) (ci 1)),o1 79 (.ia 1 (.t 76) (.t 78)),o1 80 (.ld 1 false (.t 79)),
  (mt 81 8),o1 82 (.ia 1 (.t 75) (.t 80)),
  (o3 (.st 1 (.t 82) (.t 81)))]
abbrev l5:List AO:=
 [o1 84 (.bin .eql (.t 31) (ci 30)),
  (mt 83 84)]
abbrev l4:List AO:=
 [(mt 85 0),
  (mt 86 6),
  (o2 87 100 [.t 85,.t 86]),o1 88 (.bin .lss (.t 87) (ci 0))]
abbrev l3:List AO:=
 [(mt 89 8),o1 2 (.mv (.c .sl0)),
  (mt 3 89),o1 4 (.mv (ci 15))]
abbrev lZ:List AO:=
 [o1 91 (.bin .eql (.t 31) (ci 31)),
  (mt 90 91)]
abbrev lY:List AO:=
 [(mt 92 9),o1 93 (.bin .eql (.t 92) (ci 0))]
abbrev lX:List AO:=
 [(mt 94 8),o1 2 (.mv (.c .sl0)),
  (mt 3 94),o1 4 (.mv (ci 15))]
abbrev lW:List AO:=
 [(mt 95 5),
  (mt 96 8),
  (mt 97 6),
  (mt 98 9),o1 99 (.bin .sub (.t 98) (ci 1)),o1 100 (.ia 1 (.t 97) (.t 99)),o1 101 (.ld 1 false (.t 100)),o1 102 (.ia 1 (.t 95) (.t 96)),
  (o3 (.st 1 (.t 102) (.t 101)))]
abbrev lV:List AO:=
 [(mt 103 7),
  (mt 104 9),o1 105 (.bin .sub (.t 104) (ci 1)),o1 106 (.ia 1 (.t 103) (.t 105)),o1 107 (.ld 1 false (.t 106)),o1 108 (.bin .geq (.t 107) (ci 0))]
abbrev lU:List AO:=
 [(mt 109 5),
  (mt 110 7),
  (mt 111 9),o1 112 (.bin .sub (.t 111) (ci 1)),o1 113 (.ia 1 (.t 110) (.t 112)),o1 114 (.ld 1 false (.t 113)),
  (mt 115 8),o1 116 (.ia 1 (.t 109) (.t 114)),
  (o3 (.st 1 (.t 116) (.t 115)))]
abbrev lS:List AO:=
 [(mt 117 5),
  (mt 118 6),
  (mt 119 9),o1 120 (.bin .sub (.t 119) (ci 1)),o1 121 (.ia 1 (.t 118) (.t 120)),o1 122 (.ld 1 false (.t 121)),
  (mt 123 8),o1 124 (.ia 1 (.t 117) (.t 122)),
  (o3 (.st 1 (.t 124) (.t 123)))]
abbrev mq:List (Nat×AO):=
 [(2,(mt 125 6)),
  (2,(mt 126 9)),(2,(o1 127 (.bin .sub (.t 126) (ci 1)))),(2,(o1 128 (.sl 1 (.t 125) none (some (.t 127))))),
  (2,(mt 129 7)),
  (2,(mt 130 9)),(2,(o1 131 (.bin .sub (.t 130) (ci 1)))),(2,(o1 132 (.sl 1 (.t 129) none (some (.t 131))))),
  (2,(mt 6 128)),
  (2,(mt 7 132))]
abbrev my:AC:=
 (.seq (.seq (.reg ml) (.cond (.t 32) .skip (.reg mj))) (.cond (.t 32) (.seq (.seq (.reg mg) (.cond (.t 36) (.seq (.reg mc) .ret) .skip)) (.reg mb)) (.seq (.reg ma) (.cond (.t 45) (.seq (.seq (.reg l9) (.cond (.t 68) (.seq (.reg l8) .ret) .skip)) (.seq (.reg l7) (.reg l6))) (.seq (.reg l5) (.cond (.t 83) (.seq (.reg l4) (.cond (.t 88) (.seq (.reg l3) .ret) .skip)) (.seq (.reg lZ) (.cond (.t 90) (.seq (.seq (.reg lY) (.cond (.t 93) (.seq (.reg lX) .ret) .skip)) (.seq (.reg lW) (.seq (.seq (.reg lV) (.cond (.t 108) (.reg lU) (.reg lS))) (.mix mq)))) .skip))))))))
abbrev mw:AC:=
 (.seq (.reg yb) (.seq (.reg ya) (.seq (.reg x9) (.block 2 my))))
abbrev lR:List AO:=
 [(mt 20 8),o1 21 (.bin .add (.t 20) (ci 1)),
  (mt 8 21)]
abbrev mz:AC:=
 (.seq (.seq (.reg yc) (.cond (.t 19) .skip (.exit 0))) (.seq (.block 1 mw) (.reg lR)))
abbrev mr:AC:=
 (.loop mz)
abbrev lQ:List AO:=
 [(mt 133 6),o1 134 (.len (.t 133)),o1 135 (.bin .gtr (.t 134) (ci 0))]
abbrev lP:List AO:=
 [(mt 136 0),o1 137 (.len (.t 136)),o1 2 (.mv (.c .sl0)),
  (mt 3 137),o1 4 (.mv (ci 15))]
abbrev lO:List AO:=
 [(mt 138 0),
  (mt 139 5),
  (o2 140 101 [.t 138,.t 139]),
  (mt 2 140),o1 3 (.mv (ci 0)),o1 4 (.mv (ci 0))]
abbrev pZ:AF:=⟨141,(.seq (.reg yi) (.seq (.seq (.reg yh) (.cond (.t 12) (.seq (.reg yg) .ret) .skip)) (.seq (.reg yf) (.seq (.reg ye) (.seq (.seq (.reg yd) (.block 0 mr)) (.seq (.seq (.reg lQ) (.cond (.t 135) (.seq (.reg lP) .ret) .skip)) (.seq (.reg lO) .ret))))))),[.mv (.t 2),.mv (.t 3),.mv (.t 4)]⟩
theorem yj:ab Tryz.prog (aa Tryz.prog 83) 83=some pZ:=by kernel_rfl
/-! compactorref18.tree-/
abbrev x5:List AO:=
 [o1 8 (.mv (.c .sl0))]
abbrev x4:List AO:=
 [o1 9 (.mv (.c .sl0))]
abbrev x3:List AO:=
 [(mt 14 2),
  (mt 10 14)]
abbrev xZ:List AO:=
 [(mt 15 10),
  (mt 16 3),o1 17 (.bin .lss (.t 15) (.t 16))]
abbrev xY:List AO:=
 [(mt 18 0),
  (mt 19 10),o1 20 (.ia 2 (.t 18) (.t 19)),o1 21 (.fa 0 (.t 20)),o1 22 (.ld 1 false (.t 21)),o1 23 (.bin .neq (.t 22) (ci 27)),
  (mt 24 23),
  (o5 25 24 (.mv (.t 0))),
  (o5 26 24 (.mv (.t 10))),
  (o5 27 24 (.ia 2 (.t 25) (.t 26))),
  (o5 28 24 (.fa 0 (.t 27))),
  (o5 29 24 (.ld 1 false (.t 28))),
  (o5 30 24 (.bin .neq (.t 29) (ci 29))),o1 31 (.pick (.t 24) (.t 30) (.c (.b false)))]
abbrev xX:List AO:=
 [(mt 32 10),
  (mt 11 32)]
abbrev xW:List AO:=
 [(mt 33 11),
  (mt 34 3),o1 35 (.bin .lss (.t 33) (.t 34)),
  (mt 36 35),
  (o5 37 36 (.mv (.t 0))),
  (o5 38 36 (.mv (.t 11))),
  (o5 39 36 (.ia 2 (.t 37) (.t 38))),
  (o5 40 36 (.fa 0 (.t 39))),
  (o5 41 36 (.ld 1 false (.t 40))),
  (o5 42 36 (.bin .neq (.t 41) (ci 27))),o1 43 (.pick (.t 36) (.t 42) (.c (.b false))),
  (mt 44 43),
  (o5 45 44 (.mv (.t 0))),
  (o5 46 44 (.mv (.t 11))),
  (o5 47 44 (.ia 2 (.t 45) (.t 46))),
  (o5 48 44 (.fa 0 (.t 47))),
  (o5 49 44 (.ld 1 false (.t 48))),
  (o5 50 44 (.bin .neq (.t 49) (ci 29))),o1 51 (.pick (.t 44) (.t 50) (.c (.b false)))]
abbrev xV:List AO:=
 [(mt 52 11),o1 53 (.bin .add (.t 52) (ci 1)),
  (mt 11 53)]
abbrev x7:AC:=
 (.reg xV)
abbrev x8:AC:=
 (.seq (.seq (.reg xW) (.cond (.t 51) .skip (.exit 2))) (.block 3 x7))
abbrev lM:AC:=
 (.loop x8)
abbrev lJ:List AO:=
 [(mt 54 9),
  (mt 55 10),
  (mt 56 11),o1 57 (.bd [.n .i64 0,.n .i64 0,.n .i64 0,.sl0,.sl0] [(0,1,(.c (.n .i64 (-1)))),(1,1,(.t 55)),(2,1,(.t 56))]),o1 58 (.bs 106 5 1 [.n .i64 0,.n .i64 0,.n .i64 0,.sl0,.sl0] [(0,5,(.t 57))]),o1 59 (.app 106 5 72 (.t 54) (.t 58)),
  (mt 9 59)]
abbrev lI:List AO:=
 [(mt 60 11),
  (mt 10 60)]
abbrev lH:List AO:=
 [(mt 61 0),
  (mt 62 10),o1 63 (.ia 2 (.t 61) (.t 62)),o1 64 (.fa 0 (.t 63)),o1 65 (.ld 1 false (.t 64)),
  (mt 66 10),o1 67 (.bd [.n .i64 0,.n .i64 0,.n .i64 0,.sl0,.sl0] [(0,1,(.t 65)),(1,1,(.t 66))]),o1 12 (.al 106 [.n .i64 0,.n .i64 0,.n .i64 0,.sl0,.sl0]),
  (o3 (.st 5 (.t 12) (.t 67)))]
abbrev lG:List AO:=
 [(mt 68 1),
  (mt 69 10),o1 70 (.ia 1 (.t 68) (.t 69)),o1 71 (.ld 1 false (.t 70)),
  (mt 13 71)]
abbrev lF:List AO:=
 [(mt 72 0),
  (mt 73 1),
  (mt 74 10),o1 75 (.bin .add (.t 74) (ci 1)),
  (mt 76 13),
  (o2 77 84 [.t 72,.t 73,.t 75,.t 76]),o1 78 (.fa 3 (.t 12)),
  (o3 (.st 1 (.t 78) (.t 77)))]
abbrev lD:List AO:=
 [(mt 79 13),o1 80 (.bin .add (.t 79) (ci 1)),o1 81 (.fa 2 (.t 12)),
  (o3 (.st 1 (.t 81) (.t 80)))]
abbrev lC:List AO:=
 [(mt 82 0),
  (mt 83 13),o1 84 (.ia 2 (.t 82) (.t 83)),o1 85 (.fa 0 (.t 84)),o1 86 (.ld 1 false (.t 85)),o1 87 (.bin .eql (.t 86) (ci 28))]
abbrev lB:List AO:=
 [(mt 88 0),
  (mt 89 1),
  (mt 90 13),o1 91 (.bin .add (.t 90) (ci 1)),
  (mt 92 1),
  (mt 93 13),o1 94 (.ia 1 (.t 92) (.t 93)),o1 95 (.ld 1 false (.t 94)),
  (o2 96 84 [.t 88,.t 89,.t 91,.t 95]),o1 97 (.fa 4 (.t 12)),
  (o3 (.st 1 (.t 97) (.t 96)))]
abbrev lA:List AO:=
 [(mt 98 1),
  (mt 99 13),o1 100 (.ia 1 (.t 98) (.t 99)),o1 101 (.ld 1 false (.t 100)),o1 102 (.bin .add (.t 101) (ci 1)),o1 103 (.fa 2 (.t 12)),
  (o3 (.st 1 (.t 103) (.t 102)))]
abbrev ly:List AO:=
 [(mt 104 9),o1 105 (.ld 5 true (.t 12)),o1 106 (.bs 106 5 1 [.n .i64 0,.n .i64 0,.n .i64 0,.sl0,.sl0] [(0,5,(.t 105))]),o1 107 (.app 106 5 72 (.t 104) (.t 106)),
  (mt 9 107)]
abbrev lx:List AO:=
 [o1 108 (.fa 2 (.t 12)),o1 109 (.ld 1 false (.t 108)),
  (mt 10 109)]
abbrev lL:AC:=
 (.seq (.seq (.reg xY) (.cond (.t 31) (.seq (.reg xX) (.seq (.block 2 lM) (.seq (.reg lJ) (.seq (.reg lI) (.exit 1))))) .skip)) (.seq (.reg lH) (.seq (.reg lG) (.seq (.reg lF) (.seq (.reg lD) (.seq (.seq (.reg lC) (.cond (.t 87) (.seq (.reg lB) (.reg lA)) .skip)) (.seq (.reg ly) (.reg lx))))))))
abbrev lN:AC:=
 (.seq (.seq (.reg xZ) (.cond (.t 17) .skip (.exit 0))) (.block 1 lL))
abbrev lK:AC:=
 (.loop lN)
abbrev lw:List AO:=
 [(mt 110 9),
  (mt 8 110)]
abbrev pY:AF:=⟨111,(.seq (.reg x5) (.seq (.reg x4) (.seq (.reg x3) (.seq (.block 0 lK) (.seq (.reg lw) .ret))))),[.mv (.t 8)]⟩
theorem x6:ab Tryz.prog (aa Tryz.prog 84) 84=some pY:=by kernel_rfl
/-! instruction.operations$1-/
abbrev xT:List AO:=
 [o1 2 (.al 96 [.s ⟨#[]⟩,.s ⟨#[]⟩,.s ⟨#[]⟩,.n .u64 0,.b false])]
abbrev xS:List AO:=
 [(mt 3 0),o1 4 (.bd [.s ⟨#[]⟩,.s ⟨#[]⟩,.s ⟨#[]⟩,.n .u64 0,.b false] [(0,1,(.t 3)),(1,1,(.c (.s ⟨#[110,110]⟩))),(2,1,(.c (.s ⟨#[110]⟩))),(3,1,(.c (.n .u64 1))),(4,1,(.c (.b false)))]),
  (o3 (.st 5 (.t 2) (.t 4)))]
abbrev pX:AF:=⟨5,(.seq (.reg xT) (.seq (.reg xS) .ret)),[.ld 5 true (.t 2)]⟩
theorem xU:ab Tryz.prog (aa Tryz.prog 95) 95=some pX:=by kernel_rfl
/-! instruction.operations$2-/
abbrev xQ:List AO:=
 [o1 6 (.al 96 [.s ⟨#[]⟩,.s ⟨#[]⟩,.s ⟨#[]⟩,.n .u64 0,.b false])]
abbrev xP:List AO:=
 [(mt 7 0),
  (mt 8 1),
  (mt 9 2),o1 10 (.bd [.s ⟨#[]⟩,.s ⟨#[]⟩,.s ⟨#[]⟩,.n .u64 0,.b false] [(0,1,(.t 7)),(1,1,(.t 8)),(2,1,(.t 9)),(3,1,(.c (.n .u64 1))),(4,1,(.c (.b false)))]),
  (o3 (.st 5 (.t 6) (.t 10)))]
abbrev pW:AF:=⟨11,(.seq (.reg xQ) (.seq (.reg xP) .ret)),[.ld 5 true (.t 6)]⟩
theorem xR:ab Tryz.prog (aa Tryz.prog 96) 96=some pW:=by kernel_rfl
/-! compactorref18.innermost-/
abbrev xK:List AO:=
 [o1 4 (.mv (ci 0))]
abbrev xJ:List AO:=
 [(mt 6 1),o1 7 (.len (.t 6)),o1 8 (.bin .sub (.t 7) (ci 1)),
  (mt 5 8)]
abbrev xI:List AO:=
 [(mt 9 5),o1 10 (.bin .geq (.t 9) (ci 0))]
abbrev xH:List AO:=
 [(mt 13 0),
  (mt 14 1),
  (mt 15 5),o1 16 (.ia 1 (.t 14) (.t 15)),o1 17 (.ld 1 false (.t 16)),o1 18 (.ia 2 (.t 13) (.t 17)),o1 19 (.fa 0 (.t 18)),o1 20 (.ld 1 false (.t 19)),o1 21 (.bin .eql (.t 20) (ci 29))]
abbrev xG:List AO:=
 [(mt 22 1),
  (mt 23 5),o1 24 (.ia 1 (.t 22) (.t 23)),o1 25 (.ld 1 false (.t 24)),
  (mt 4 25)]
abbrev xN:AC:=
 (.seq (.reg xH) (.cond (.t 21) (.seq (.reg xG) .ret) .skip))
abbrev xF:List AO:=
 [(mt 11 5),o1 12 (.bin .sub (.t 11) (ci 1)),
  (mt 5 12)]
abbrev xO:AC:=
 (.seq (.seq (.reg xI) (.cond (.t 10) .skip (.exit 0))) (.seq (.block 1 xN) (.reg xF)))
abbrev xM:AC:=
 (.loop xO)
abbrev xE:List AO:=
 [o1 4 (.mv (.c (.n .i64 (-1))))]
abbrev pV:AF:=⟨26,(.seq (.reg xK) (.seq (.seq (.reg xJ) (.block 0 xM)) (.seq (.reg xE) .ret))),[.mv (.t 4)]⟩
theorem xL:ab Tryz.prog (aa Tryz.prog 100) 100=some pV:=by kernel_rfl
/-! compactorref18.leaves-/
abbrev xC:List AO:=
 [o1 4 (.mv (.c .sl0))]
abbrev xB:List AO:=
 [o1 5 (.mv (.c .sl0))]
abbrev xA:List AO:=
 [o1 6 (.mv (ci 0))]
abbrev xz:List AO:=
 [(mt 7 6),
  (mt 8 0),o1 9 (.len (.t 8)),o1 10 (.bin .lss (.t 7) (.t 9))]
abbrev xy:List AO:=
 [(mt 14 0),
  (mt 15 6),o1 16 (.ia 2 (.t 14) (.t 15)),o1 17 (.fa 0 (.t 16)),o1 18 (.ld 1 false (.t 17)),o1 19 (.bin .eql (.t 18) (ci 29)),
  (mt 13 19)]
abbrev xw:List AO:=
 [(mt 20 5),
  (mt 21 6),o1 22 (.bs 3 1 1 [.n .i64 0] [(0,1,(.t 21))]),o1 23 (.app 3 1 8 (.t 20) (.t 22)),
  (mt 5 23)]
abbrev xv:List AO:=
 [(mt 25 0),
  (mt 26 6),o1 27 (.ia 2 (.t 25) (.t 26)),o1 28 (.fa 0 (.t 27)),o1 29 (.ld 1 false (.t 28)),o1 30 (.bin .eql (.t 29) (ci 31)),
  (mt 31 30),
  (o5 32 31 (.mv (.t 0))),
  (o5 33 31 (.mv (.t 1))),
  (o5 34 31 (.mv (.t 6))),
  (o5 35 31 (.ia 1 (.t 33) (.t 34))),
  (o5 36 31 (.ld 1 false (.t 35))),
  (o5 37 31 (.ia 2 (.t 32) (.t 36))),
  (o5 38 31 (.fa 0 (.t 37))),
  (o5 39 31 (.ld 1 false (.t 38))),
  (o5 40 31 (.bin .eql (.t 39) (ci 29))),o1 41 (.pick (.t 31) (.t 40) (.c (.b false))),
  (mt 24 41)]
abbrev xu:List AO:=
 [(mt 42 5),
  (mt 43 5),o1 44 (.len (.t 43)),o1 45 (.bin .sub (.t 44) (ci 1)),o1 46 (.sl 1 (.t 42) none (some (.t 45))),
  (mt 5 46)]
abbrev xt:List AO:=
 [(mt 48 0),
  (mt 49 6),o1 50 (.ia 2 (.t 48) (.t 49)),o1 51 (.fa 0 (.t 50)),o1 52 (.ld 1 false (.t 51)),o1 53 (.bin .eql (.t 52) (ci 30)),
  (mt 47 53)]
abbrev xr:List AO:=
 [(mt 54 1),
  (mt 55 6),
  (mt 56 1),
  (mt 57 5),
  (mt 58 5),o1 59 (.len (.t 58)),o1 60 (.bin .sub (.t 59) (ci 1)),o1 61 (.ia 1 (.t 57) (.t 60)),o1 62 (.ld 1 false (.t 61)),o1 63 (.ia 1 (.t 56) (.t 62)),o1 64 (.ld 1 false (.t 63)),o1 65 (.ia 1 (.t 54) (.t 55)),
  (o3 (.st 1 (.t 65) (.t 64)))]
abbrev lr:AC:=
 (.seq (.reg xy) (.cond (.t 13) (.reg xw) (.seq (.reg xv) (.cond (.t 24) (.reg xu) (.seq (.reg xt) (.cond (.t 47) (.reg xr) .skip))))))
abbrev lq:AC:=
 (.block 2 lr)
abbrev lm:List AO:=
 [(mt 11 6),o1 12 (.bin .add (.t 11) (ci 1)),
  (mt 6 12)]
abbrev lu:AC:=
 (.seq (.seq (.reg xz) (.cond (.t 10) .skip (.exit 0))) (.seq (.block 1 lq) (.reg lm)))
abbrev lp:AC:=
 (.loop lu)
abbrev ll:List AO:=
 [(mt 66 1),
  (mt 4 66)]
abbrev pU:AF:=⟨67,(.seq (.reg xC) (.seq (.reg xB) (.seq (.seq (.reg xA) (.block 0 lp)) (.seq (.reg ll) .ret)))),[.mv (.t 4)]⟩
theorem xD:ab Tryz.prog (aa Tryz.prog 101) 101=some pU:=by kernel_rfl
/-! interval.Within-/
abbrev xp:List AO:=
 [o1 2 (.bx 123 0 (.t 0)),o1 3 (.bx 123 0 (.t 1)),o1 4 (.mv (.c (.b false)))]
abbrev xo:List AO:=
 [o1 5 (.ld 2 true (.t 2)),o1 6 (.ld 2 true (.t 3)),
  (o2 7 92 [.t 5,.t 6]),
  (mt 8 7),
  (o5 9 8 (.fa 0 (.t 3))),
  (o5 10 8 (.ld 1 false (.t 9))),
  (o5 11 8 (.fa 0 (.t 2))),
  (o5 12 8 (.ld 1 false (.t 11))),
  (o5 13 8 (.bin .leq (.t 10) (.t 12))),o1 14 (.pick (.t 8) (.t 13) (.c (.b false))),
  (mt 15 14),
  (o5 16 15 (.fa 1 (.t 2))),
  (o5 17 15 (.ld 1 false (.t 16))),
  (o5 18 15 (.fa 1 (.t 3))),
  (o5 19 15 (.ld 1 false (.t 18))),
  (o5 20 15 (.bin .leq (.t 17) (.t 19))),o1 21 (.pick (.t 15) (.t 20) (.c (.b false))),
  (mt 4 21)]
abbrev pT:AF:=⟨22,(.seq (.reg xp) (.seq (.reg xo) .ret)),[.mv (.t 4)]⟩
theorem xq:ab Tryz.prog (aa Tryz.prog 118) 118=some pT:=by kernel_rfl
/-! interval.operands.add-/
abbrev xl:List AO:=
 [o1 1 (.bx 202 0 (.t 0)),o1 2 (.al 123 [.n .i64 0,.n .i64 0])]
abbrev xk:List AO:=
 [o1 3 (.fa 0 (.t 1)),o1 4 (.ld 1 false (.t 3)),o1 5 (.fa 2 (.t 1)),o1 6 (.ld 1 false (.t 5)),o1 7 (.bin .add (.t 4) (.t 6)),o1 8 (.fa 1 (.t 1)),o1 9 (.ld 1 false (.t 8)),o1 10 (.fa 3 (.t 1)),o1 11 (.ld 1 false (.t 10)),o1 12 (.bin .add (.t 9) (.t 11)),
  (o2 13 138 [.t 7,.t 12]),
  (o3 (.st 2 (.t 2) (.t 13)))]
abbrev pS:AF:=⟨14,(.seq (.reg xl) (.seq (.reg xk) .ret)),[.ld 2 true (.t 2)]⟩
theorem xn:ab Tryz.prog (aa Tryz.prog 124) 124=some pS:=by kernel_rfl
/-! interval.operands.sub-/
abbrev xi:List AO:=
 [o1 1 (.bx 202 0 (.t 0)),o1 2 (.al 123 [.n .i64 0,.n .i64 0])]
abbrev xh:List AO:=
 [o1 3 (.fa 0 (.t 1)),o1 4 (.ld 1 false (.t 3)),o1 5 (.fa 3 (.t 1)),o1 6 (.ld 1 false (.t 5)),o1 7 (.bin .sub (.t 4) (.t 6)),o1 8 (.fa 1 (.t 1)),o1 9 (.ld 1 false (.t 8)),o1 10 (.fa 2 (.t 1)),o1 11 (.ld 1 false (.t 10)),o1 12 (.bin .sub (.t 9) (.t 11)),
  (o2 13 138 [.t 7,.t 12]),
  (o3 (.st 2 (.t 2) (.t 13)))]
abbrev pR:AF:=⟨14,(.seq (.reg xi) (.seq (.reg xh) .ret)),[.ld 2 true (.t 2)]⟩
theorem xj:ab Tryz.prog (aa Tryz.prog 125) 125=some pR:=by kernel_rfl
/-! interval.operands.mul-/
abbrev xe:List AO:=
 [o1 1 (.bx 202 0 (.t 0)),o1 2 (.al 123 [.n .i64 0,.n .i64 0])]
abbrev xg:List (Nat×AO):=
 [(2,(o1 3 (.fa 3 (.t 1)))),(1,(o1 4 (.ld 1 false (.t 3)))),(2,(o1 5 (.bin .gtr (.t 4) (ci 0)))),
  (2,(mt 6 5)),
  (2,(o5 7 6 (.fa 1 (.t 1)))),
  (2,(o5 9 6 (.fa 3 (.t 1)))),
  (1,(o5 8 6 (.ld 1 false (.t 7)))),
  (1,(o5 10 6 (.ld 1 false (.t 9)))),
  (2,(o5 11 6 (.bin .quo (ci 4294967295) (.t 10)))),
  (2,(o5 12 6 (.bin .gtr (.t 8) (.t 11)))),(2,(o1 13 (.pick (.t 6) (.t 12) (.c (.b false)))))]
abbrev xd:List AO:=
 [(o2 14 73 []),
  (o3 (.st 2 (.t 2) (.t 14)))]
abbrev xc:List AO:=
 [o1 15 (.fa 0 (.t 1)),o1 16 (.ld 1 false (.t 15)),o1 17 (.fa 2 (.t 1)),o1 18 (.ld 1 false (.t 17)),o1 19 (.bin .mul (.t 16) (.t 18)),o1 20 (.fa 1 (.t 1)),o1 21 (.ld 1 false (.t 20)),o1 22 (.fa 3 (.t 1)),o1 23 (.ld 1 false (.t 22)),o1 24 (.bin .mul (.t 21) (.t 23)),o1 25 (.bd [.n .i64 0,.n .i64 0] [(0,1,(.t 19)),(1,1,(.t 24))]),
  (o3 (.st 2 (.t 2) (.t 25)))]
abbrev pQ:AF:=⟨26,(.seq (.reg xe) (.seq (.seq (.mix xg) (.cond (.t 13) (.seq (.reg xd) .ret) .skip)) (.seq (.reg xc) .ret))),[.ld 2 true (.t 2)]⟩
theorem xf:ab Tryz.prog (aa Tryz.prog 126) 126=some pQ:=by kernel_rfl
/-! interval.operands.div-/
abbrev w8:List AO:=
 [o1 1 (.bx 202 0 (.t 0)),o1 2 (.al 123 [.n .i64 0,.n .i64 0])]
abbrev xa:List (Nat×AO):=
 [(2,(o1 3 (.fa 0 (.t 1)))),(2,(o1 5 (.fa 3 (.t 1)))),(2,(o1 8 (.fa 1 (.t 1)))),(2,(o1 10 (.fa 2 (.t 1)))),(1,(o1 4 (.ld 1 false (.t 3)))),(1,(o1 6 (.ld 1 false (.t 5)))),(2,(o1 7 (.bin .quo (.t 4) (.t 6)))),(1,(o1 9 (.ld 1 false (.t 8)))),(1,(o1 11 (.ld 1 false (.t 10)))),(2,(o1 12 (.bin .quo (.t 9) (.t 11)))),(2,(o1 13 (.bd [.n .i64 0,.n .i64 0] [(0,1,(.t 7)),(1,1,(.t 12))]))),
  (3,(o3 (.st 2 (.t 2) (.t 13))))]
abbrev pP:AF:=⟨14,(.seq (.reg w8) (.seq (.mix xa) .ret)),[.ld 2 true (.t 2)]⟩
theorem w9:ab Tryz.prog (aa Tryz.prog 127) 127=some pP:=by kernel_rfl
/-! interval.operands.mod-/
abbrev w6:List AO:=
 [o1 1 (.bx 202 0 (.t 0)),o1 2 (.al 123 [.n .i64 0,.n .i64 0])]
abbrev w5:List AO:=
 [o1 3 (.fa 1 (.t 1)),o1 4 (.ld 1 false (.t 3)),o1 5 (.fa 2 (.t 1)),o1 6 (.ld 1 false (.t 5)),o1 7 (.bin .lss (.t 4) (.t 6))]
abbrev w4:List AO:=
 [o1 8 (.fa 0 (.t 1)),o1 9 (.ld 1 false (.t 8)),o1 10 (.fa 1 (.t 1)),o1 11 (.ld 1 false (.t 10)),o1 12 (.bd [.n .i64 0,.n .i64 0] [(0,1,(.t 9)),(1,1,(.t 11))]),
  (o3 (.st 2 (.t 2) (.t 12)))]
abbrev w3:List AO:=
 [o1 13 (.fa 1 (.t 1)),o1 14 (.ld 1 false (.t 13)),o1 15 (.fa 3 (.t 1)),o1 16 (.ld 1 false (.t 15)),o1 17 (.bin .sub (.t 16) (ci 1)),⟨some 18,none,.mo (.mi (.t 14) (.t 17))⟩,o1 19 (.bd [.n .i64 0,.n .i64 0] [(1,1,(.t 18))]),
  (o3 (.st 2 (.t 2) (.t 19)))]
abbrev pO:AF:=⟨20,(.seq (.reg w6) (.seq (.seq (.reg w5) (.cond (.t 7) (.seq (.reg w4) .ret) .skip)) (.seq (.reg w3) .ret))),[.ld 2 true (.t 2)]⟩
theorem w7:ab Tryz.prog (aa Tryz.prog 128) 128=some pO:=by kernel_rfl
/-! interval.operands.and-/
abbrev wY:List AO:=
 [o1 1 (.bx 202 0 (.t 0)),o1 2 (.al 123 [.n .i64 0,.n .i64 0])]
abbrev wX:List AO:=
 [o1 3 (.fa 1 (.t 1)),o1 4 (.ld 1 false (.t 3)),o1 5 (.fa 3 (.t 1)),o1 6 (.ld 1 false (.t 5)),⟨some 7,none,.mo (.mi (.t 4) (.t 6))⟩,o1 8 (.bd [.n .i64 0,.n .i64 0] [(1,1,(.t 7))]),
  (o3 (.st 2 (.t 2) (.t 8)))]
abbrev pN:AF:=⟨9,(.seq (.reg wY) (.seq (.reg wX) .ret)),[.ld 2 true (.t 2)]⟩
theorem wZ:ab Tryz.prog (aa Tryz.prog 129) 129=some pN:=by kernel_rfl
/-! interval.operands.or-/
abbrev wU:List AO:=
 [o1 1 (.bx 202 0 (.t 0)),o1 2 (.al 123 [.n .i64 0,.n .i64 0])]
abbrev wW:List (Nat×AO):=
 [(2,(o1 3 (.fa 0 (.t 1)))),(1,(o1 4 (.ld 1 false (.t 3)))),(2,(o1 5 (.fa 2 (.t 1)))),(1,(o1 6 (.ld 1 false (.t 5)))),(2,(o1 8 (.fa 1 (.t 1)))),(1,(o1 9 (.ld 1 false (.t 8)))),(2,(o1 10 (.fa 3 (.t 1)))),(1,(o1 11 (.ld 1 false (.t 10))))]
abbrev wT:AT:=
 (.alt ⟨some 7,none,.mo (.mx (.t 4) (.t 6))⟩ (.alt ⟨some 12,none,.mo (.mx (.t 9) (.t 11))⟩ (.alt (o2 13 139 [.t 12]) (.alt (o1 14 (.bd [.n .i64 0,.n .i64 0] [(0,1,(.t 7)),(1,1,(.t 13))])) (.alt (o3 (.st 2 (.t 2) (.t 14))) .fin .none) .none) .none) .none) (.alt ⟨some 12,none,.mo (.mx (.t 9) (.t 11))⟩ (.alt ⟨some 7,none,.mo (.mx (.t 4) (.t 6))⟩ (.alt (o2 13 139 [.t 12]) (.alt (o1 14 (.bd [.n .i64 0,.n .i64 0] [(0,1,(.t 7)),(1,1,(.t 13))])) (.alt (o3 (.st 2 (.t 2) (.t 14))) .fin .none) .none) .none) (.alt (o2 13 139 [.t 12]) (.alt ⟨some 7,none,.mo (.mx (.t 4) (.t 6))⟩ (.alt (o1 14 (.bd [.n .i64 0,.n .i64 0] [(0,1,(.t 7)),(1,1,(.t 13))])) (.alt (o3 (.st 2 (.t 2) (.t 14))) .fin .none) .none) .none) .none)) .none))
abbrev pM:AF:=⟨15,(.seq (.reg wU) (.seq (.frk wW wT) .ret)),[.ld 2 true (.t 2)]⟩
theorem wV:ab Tryz.prog (aa Tryz.prog 130) 130=some pM:=by kernel_rfl
/-! interval.operands.xor-/
abbrev wR:List AO:=
 [o1 1 (.bx 202 0 (.t 0)),o1 2 (.al 123 [.n .i64 0,.n .i64 0])]
abbrev wQ:List AO:=
 [o1 3 (.fa 1 (.t 1)),o1 4 (.ld 1 false (.t 3)),o1 5 (.fa 3 (.t 1)),o1 6 (.ld 1 false (.t 5)),⟨some 7,none,.mo (.mx (.t 4) (.t 6))⟩,
  (o2 8 139 [.t 7]),o1 9 (.bd [.n .i64 0,.n .i64 0] [(1,1,(.t 8))]),
  (o3 (.st 2 (.t 2) (.t 9)))]
abbrev pL:AF:=⟨10,(.seq (.reg wR) (.seq (.reg wQ) .ret)),[.ld 2 true (.t 2)]⟩
theorem wS:ab Tryz.prog (aa Tryz.prog 131) 131=some pL:=by kernel_rfl
/-! interval.operands.shl-/
abbrev wM:List AO:=
 [o1 1 (.bx 202 0 (.t 0)),o1 2 (.al 123 [.n .i64 0,.n .i64 0])]
abbrev wL:List AO:=
 [o1 4 (.fa 2 (.t 1)),o1 5 (.ld 1 false (.t 4)),o1 6 (.bin .rem (.t 5) (ci 32)),
  (mt 3 6)]
abbrev wP:List (Nat×AO):=
 [(2,(o1 7 (.fa 2 (.t 1)))),(2,(o1 9 (.fa 3 (.t 1)))),(1,(o1 8 (.ld 1 false (.t 7)))),(1,(o1 10 (.ld 1 false (.t 9)))),(2,(o1 11 (.bin .neq (.t 8) (.t 10)))),
  (2,(mt 12 11)),
  (2,(o4 13 12 (.fa 1 (.t 1)))),
  (2,(o4 15 12 (.mv (.t 3)))),
  (2,(o4 16 12 (.bin .shr (ci 4294967295) (.t 15)))),
  (1,(o4 14 12 (.ld 1 false (.t 13)))),
  (2,(o4 17 12 (.bin .gtr (.t 14) (.t 16)))),(2,(o1 18 (.pick (.t 12) (.c (.b true)) (.t 17))))]
abbrev wK:List AO:=
 [(o2 19 73 []),
  (o3 (.st 2 (.t 2) (.t 19)))]
abbrev wO:List (Nat×AO):=
 [(2,(o1 20 (.fa 0 (.t 1)))),
  (2,(mt 22 3)),(2,(o1 24 (.fa 1 (.t 1)))),
  (2,(mt 26 3)),(1,(o1 21 (.ld 1 false (.t 20)))),(2,(o1 23 (.bin .shl (.t 21) (.t 22)))),(1,(o1 25 (.ld 1 false (.t 24)))),(2,(o1 27 (.bin .shl (.t 25) (.t 26)))),(2,(o1 28 (.bd [.n .i64 0,.n .i64 0] [(0,1,(.t 23)),(1,1,(.t 27))]))),
  (3,(o3 (.st 2 (.t 2) (.t 28))))]
abbrev pK:AF:=⟨29,(.seq (.reg wM) (.seq (.reg wL) (.seq (.seq (.mix wP) (.cond (.t 18) (.seq (.reg wK) .ret) .skip)) (.seq (.mix wO) .ret)))),[.ld 2 true (.t 2)]⟩
theorem wN:ab Tryz.prog (aa Tryz.prog 132) 132=some pK:=by kernel_rfl
/-! interval.operands.shr-/
abbrev wF:List AO:=
 [o1 1 (.bx 202 0 (.t 0)),o1 2 (.al 123 [.n .i64 0,.n .i64 0])]
abbrev wE:List AO:=
 [o1 4 (.fa 3 (.t 1)),o1 5 (.ld 1 false (.t 4)),o1 6 (.bin .leq (.t 5) (ci 31)),
  (mt 3 6)]
abbrev wI:List (Nat×AO):=
 [(2,(o1 7 (.fa 0 (.t 1)))),(2,(o1 9 (.fa 3 (.t 1)))),(2,(o1 12 (.fa 1 (.t 1)))),(2,(o1 14 (.fa 2 (.t 1)))),(1,(o1 8 (.ld 1 false (.t 7)))),(1,(o1 10 (.ld 1 false (.t 9)))),(2,(o1 11 (.bin .shr (.t 8) (.t 10)))),(1,(o1 13 (.ld 1 false (.t 12)))),(1,(o1 15 (.ld 1 false (.t 14)))),(2,(o1 16 (.bin .shr (.t 13) (.t 15)))),(2,(o1 17 (.bd [.n .i64 0,.n .i64 0] [(0,1,(.t 11)),(1,1,(.t 16))]))),
  (3,(o3 (.st 2 (.t 2) (.t 17))))]
abbrev wD:List AO:=
 [o1 19 (.fa 2 (.t 1)),o1 20 (.ld 1 false (.t 19)),o1 21 (.fa 3 (.t 1)),o1 22 (.ld 1 false (.t 21)),o1 23 (.bin .eql (.t 20) (.t 22)),
  (mt 18 23)]
abbrev wH:List (Nat×AO):=
 [(2,(o1 24 (.fa 0 (.t 1)))),(2,(o1 26 (.fa 2 (.t 1)))),(2,(o1 30 (.fa 1 (.t 1)))),(2,(o1 32 (.fa 2 (.t 1)))),(1,(o1 25 (.ld 1 false (.t 24)))),(1,(o1 27 (.ld 1 false (.t 26)))),(2,(o1 28 (.bin .rem (.t 27) (ci 32)))),(2,(o1 29 (.bin .shr (.t 25) (.t 28)))),(1,(o1 31 (.ld 1 false (.t 30)))),(1,(o1 33 (.ld 1 false (.t 32)))),(2,(o1 34 (.bin .rem (.t 33) (ci 32)))),(2,(o1 35 (.bin .shr (.t 31) (.t 34)))),(2,(o1 36 (.bd [.n .i64 0,.n .i64 0] [(0,1,(.t 29)),(1,1,(.t 35))]))),
  (3,(o3 (.st 2 (.t 2) (.t 36))))]
abbrev wJ:AC:=
 (.seq (.reg wE) (.cond (.t 3) (.seq (.mix wI) .ret) (.seq (.reg wD) (.cond (.t 18) (.seq (.mix wH) .ret) .skip))))
abbrev wC:List AO:=
 [o1 37 (.fa 1 (.t 1)),o1 38 (.ld 1 false (.t 37)),o1 39 (.bd [.n .i64 0,.n .i64 0] [(1,1,(.t 38))]),
  (o3 (.st 2 (.t 2) (.t 39)))]
abbrev pH:AF:=⟨40,(.seq (.reg wF) (.seq (.block 0 wJ) (.seq (.reg wC) .ret))),[.ld 2 true (.t 2)]⟩
theorem wG:ab Tryz.prog (aa Tryz.prog 133) 133=some pH:=by kernel_rfl
/-! interval.operands.least-/
abbrev wA:List AO:=
 [o1 1 (.bx 202 0 (.t 0)),o1 2 (.al 123 [.n .i64 0,.n .i64 0])]
abbrev wz:List AO:=
 [o1 3 (.fa 0 (.t 1)),o1 4 (.ld 1 false (.t 3)),o1 5 (.fa 2 (.t 1)),o1 6 (.ld 1 false (.t 5)),⟨some 7,none,.mo (.mi (.t 4) (.t 6))⟩,o1 8 (.fa 1 (.t 1)),o1 9 (.ld 1 false (.t 8)),o1 10 (.fa 3 (.t 1)),o1 11 (.ld 1 false (.t 10)),⟨some 12,none,.mo (.mi (.t 9) (.t 11))⟩,o1 13 (.bd [.n .i64 0,.n .i64 0] [(0,1,(.t 7)),(1,1,(.t 12))]),
  (o3 (.st 2 (.t 2) (.t 13)))]
abbrev pG:AF:=⟨14,(.seq (.reg wA) (.seq (.reg wz) .ret)),[.ld 2 true (.t 2)]⟩
theorem wB:ab Tryz.prog (aa Tryz.prog 134) 134=some pG:=by kernel_rfl
/-! interval.operands.greatest-/
abbrev wx:List AO:=
 [o1 1 (.bx 202 0 (.t 0)),o1 2 (.al 123 [.n .i64 0,.n .i64 0])]
abbrev ww:List AO:=
 [o1 3 (.fa 0 (.t 1)),o1 4 (.ld 1 false (.t 3)),o1 5 (.fa 2 (.t 1)),o1 6 (.ld 1 false (.t 5)),⟨some 7,none,.mo (.mx (.t 4) (.t 6))⟩,o1 8 (.fa 1 (.t 1)),o1 9 (.ld 1 false (.t 8)),o1 10 (.fa 3 (.t 1)),o1 11 (.ld 1 false (.t 10)),⟨some 12,none,.mo (.mx (.t 9) (.t 11))⟩,o1 13 (.bd [.n .i64 0,.n .i64 0] [(0,1,(.t 7)),(1,1,(.t 12))]),
  (o3 (.st 2 (.t 2) (.t 13)))]
abbrev pF:AF:=⟨14,(.seq (.reg wx) (.seq (.reg ww) .ret)),[.ld 2 true (.t 2)]⟩
theorem wy:ab Tryz.prog (aa Tryz.prog 135) 135=some pF:=by kernel_rfl
/-! interval.operands.hash-/
abbrev wu:List AO:=
 [o1 1 (.bx 202 0 (.t 0)),o1 2 (.al 123 [.n .i64 0,.n .i64 0])]
abbrev wt:List AO:=
 [(o2 3 73 []),
  (o3 (.st 2 (.t 2) (.t 3)))]
abbrev pE:AF:=⟨4,(.seq (.reg wu) (.seq (.reg wt) .ret)),[.ld 2 true (.t 2)]⟩
theorem wv:ab Tryz.prog (aa Tryz.prog 136) 136=some pE:=by kernel_rfl
/-! interval.shifted-/
abbrev wq:List AO:=
 [o1 4 (.al 123 [.n .i64 0,.n .i64 0])]
abbrev wo:List AO:=
 [(mt 6 0),o1 7 (.bin .geq (.t 6) (ci 0)),
  (mt 8 7),
  (o5 9 8 (.mv (.t 1))),
  (o5 10 8 (.bin .leq (.t 9) (ci 4294967295))),o1 11 (.pick (.t 8) (.t 10) (.c (.b false))),
  (mt 5 11)]
abbrev wm:List AO:=
 [(mt 12 0),
  (mt 13 1),o1 14 (.bd [.n .i64 0,.n .i64 0] [(0,1,(.t 12)),(1,1,(.t 13))]),
  (o3 (.st 2 (.t 4) (.t 14)))]
abbrev wl:List AO:=
 [(mt 16 0),o1 17 (.bin .gtr (.t 16) (ci 4294967295)),
  (mt 15 17)]
abbrev wj:List AO:=
 [(mt 18 0),o1 19 (.bin .sub (.t 18) (ci 4294967295)),o1 20 (.bin .sub (.t 19) (ci 1)),
  (mt 21 1),o1 22 (.bin .sub (.t 21) (ci 4294967295)),o1 23 (.bin .sub (.t 22) (ci 1)),o1 24 (.bd [.n .i64 0,.n .i64 0] [(0,1,(.t 20)),(1,1,(.t 23))]),
  (o3 (.st 2 (.t 4) (.t 24)))]
abbrev wi:List AO:=
 [(mt 26 1),o1 27 (.bin .lss (.t 26) (ci 0)),
  (mt 25 27)]
abbrev wh:List AO:=
 [(mt 28 0),o1 29 (.bin .add (.t 28) (ci 4294967295)),o1 30 (.bin .add (.t 29) (ci 1)),
  (mt 31 1),o1 32 (.bin .add (.t 31) (ci 4294967295)),o1 33 (.bin .add (.t 32) (ci 1)),o1 34 (.bd [.n .i64 0,.n .i64 0] [(0,1,(.t 30)),(1,1,(.t 33))]),
  (o3 (.st 2 (.t 4) (.t 34)))]
abbrev ws:AC:=
 (.seq (.reg wo) (.cond (.t 5) (.seq (.reg wm) .ret) (.seq (.reg wl) (.cond (.t 15) (.seq (.reg wj) .ret) (.seq (.reg wi) (.cond (.t 25) (.seq (.reg wh) .ret) .skip))))))
abbrev wg:List AO:=
 [(o2 35 73 []),
  (o3 (.st 2 (.t 4) (.t 35)))]
abbrev pD:AF:=⟨36,(.seq (.reg wq) (.seq (.block 0 ws) (.seq (.reg wg) .ret))),[.ld 2 true (.t 4)]⟩
theorem wr:ab Tryz.prog (aa Tryz.prog 138) 138=some pD:=by kernel_rfl
/-! interval.ones-/
abbrev wd:List AO:=
 [o1 2 (.mv (ci 0))]
abbrev wc:List AO:=
 [(mt 3 0),o1 4 (.cvi .u64 (.t 3)),
  (o2 5 114 [.t 4]),o1 6 (.bin .shl (ci 1) (.t 5)),o1 7 (.bin .sub (.t 6) (ci 1)),
  (mt 2 7)]
abbrev pC:AF:=⟨8,(.seq (.reg wd) (.seq (.reg wc) .ret)),[.mv (.t 2)]⟩
theorem we:ab Tryz.prog (aa Tryz.prog 139) 139=some pC:=by kernel_rfl
/-! instruction.combinations$1-/
abbrev wa:List AO:=
 [o1 4 (.mv (.c (.n .u32 0)))]
abbrev v9:List AO:=
 [(mt 5 0),
  (mt 6 1),o1 7 (.bin .add (.t 5) (.t 6)),
  (mt 4 7)]
abbrev pB:AF:=⟨8,(.seq (.reg wa) (.seq (.reg v9) .ret)),[.mv (.t 4)]⟩
theorem wb:ab Tryz.prog (aa Tryz.prog 140) 140=some pB:=by kernel_rfl
/-! instruction.combinations$2-/
abbrev v7:List AO:=
 [o1 4 (.mv (.c (.n .u32 0)))]
abbrev v6:List AO:=
 [(mt 5 0),
  (mt 6 1),o1 7 (.bin .sub (.t 5) (.t 6)),
  (mt 4 7)]
abbrev pA:AF:=⟨8,(.seq (.reg v7) (.seq (.reg v6) .ret)),[.mv (.t 4)]⟩
theorem v8:ab Tryz.prog (aa Tryz.prog 141) 141=some pA:=by kernel_rfl
/-! instruction.combinations$3-/
abbrev vY:List AO:=
 [o1 4 (.mv (.c (.n .u32 0)))]
abbrev vX:List AO:=
 [(mt 5 0),
  (mt 6 1),o1 7 (.bin .mul (.t 5) (.t 6)),
  (mt 4 7)]
abbrev pz:AF:=⟨8,(.seq (.reg vY) (.seq (.reg vX) .ret)),[.mv (.t 4)]⟩
theorem vZ:ab Tryz.prog (aa Tryz.prog 142) 142=some pz:=by kernel_rfl
/-! instruction.combinations$4-/
abbrev vV:List AO:=
 [o1 4 (.mv (.c (.n .u32 0)))]
abbrev vU:List AO:=
 [(mt 5 0),
  (mt 6 1),o1 7 (.bin .quo (.t 5) (.t 6)),
  (mt 4 7)]
abbrev py:AF:=⟨8,(.seq (.reg vV) (.seq (.reg vU) .ret)),[.mv (.t 4)]⟩
theorem vW:ab Tryz.prog (aa Tryz.prog 143) 143=some py:=by kernel_rfl
/-! instruction.combinations$5-/
abbrev vP:List AO:=
 [o1 4 (.mv (.c (.n .u32 0)))]
abbrev vO:List AO:=
 [(mt 5 0),
  (mt 6 1),o1 7 (.bin .rem (.t 5) (.t 6)),
  (mt 4 7)]
abbrev px:AF:=⟨8,(.seq (.reg vP) (.seq (.reg vO) .ret)),[.mv (.t 4)]⟩
theorem vQ:ab Tryz.prog (aa Tryz.prog 144) 144=some px:=by kernel_rfl
/-! instruction.combinations$6-/
abbrev vM:List AO:=
 [o1 4 (.mv (.c (.n .u32 0)))]
abbrev vL:List AO:=
 [(mt 5 0),
  (mt 6 1),o1 7 (.bin .and (.t 5) (.t 6)),
  (mt 4 7)]
abbrev pw:AF:=⟨8,(.seq (.reg vM) (.seq (.reg vL) .ret)),[.mv (.t 4)]⟩
theorem vN:ab Tryz.prog (aa Tryz.prog 145) 145=some pw:=by kernel_rfl
/-! instruction.combinations$7-/
abbrev vJ:List AO:=
 [o1 4 (.mv (.c (.n .u32 0)))]
abbrev vI:List AO:=
 [(mt 5 0),
  (mt 6 1),o1 7 (.bin .or (.t 5) (.t 6)),
  (mt 4 7)]
abbrev pt:AF:=⟨8,(.seq (.reg vJ) (.seq (.reg vI) .ret)),[.mv (.t 4)]⟩
theorem vK:ab Tryz.prog (aa Tryz.prog 146) 146=some pt:=by kernel_rfl
/-! instruction.combinations$8-/
abbrev vG:List AO:=
 [o1 4 (.mv (.c (.n .u32 0)))]
abbrev vF:List AO:=
 [(mt 5 0),
  (mt 6 1),o1 7 (.bin .xor (.t 5) (.t 6)),
  (mt 4 7)]
abbrev pr:AF:=⟨8,(.seq (.reg vG) (.seq (.reg vF) .ret)),[.mv (.t 4)]⟩
theorem vH:ab Tryz.prog (aa Tryz.prog 147) 147=some pr:=by kernel_rfl
/-! instruction.combinations$9-/
abbrev vD:List AO:=
 [o1 4 (.mv (.c (.n .u32 0)))]
abbrev vC:List AO:=
 [(mt 5 0),
  (mt 6 1),o1 7 (.bin .rem (.t 6) (.c (.n .u32 32))),o1 8 (.bin .shl (.t 5) (.t 7)),
  (mt 4 8)]
abbrev pq:AF:=⟨9,(.seq (.reg vD) (.seq (.reg vC) .ret)),[.mv (.t 4)]⟩
theorem vE:ab Tryz.prog (aa Tryz.prog 148) 148=some pq:=by kernel_rfl
/-! instruction.combinations$10-/
abbrev vA:List AO:=
 [o1 4 (.mv (.c (.n .u32 0)))]
abbrev vz:List AO:=
 [(mt 5 0),
  (mt 6 1),o1 7 (.bin .rem (.t 6) (.c (.n .u32 32))),o1 8 (.bin .shr (.t 5) (.t 7)),
  (mt 4 8)]
abbrev pp:AF:=⟨9,(.seq (.reg vA) (.seq (.reg vz) .ret)),[.mv (.t 4)]⟩
theorem vB:ab Tryz.prog (aa Tryz.prog 149) 149=some pp:=by kernel_rfl
/-! instruction.combinations$11-/
abbrev vx:List AO:=
 [o1 4 (.mv (.c (.n .u32 0)))]
abbrev vw:List AO:=
 [(mt 5 0),
  (mt 6 1),⟨some 7,none,.mo (.mi (.t 5) (.t 6))⟩,
  (mt 4 7)]
abbrev po:AF:=⟨8,(.seq (.reg vx) (.seq (.reg vw) .ret)),[.mv (.t 4)]⟩
theorem vy:ab Tryz.prog (aa Tryz.prog 150) 150=some po:=by kernel_rfl
/-! instruction.combinations$12-/
abbrev vt:List AO:=
 [o1 4 (.mv (.c (.n .u32 0)))]
abbrev vr:List AO:=
 [(mt 5 0),
  (mt 6 1),⟨some 7,none,.mo (.mx (.t 5) (.t 6))⟩,
  (mt 4 7)]
abbrev pn:AF:=⟨8,(.seq (.reg vt) (.seq (.reg vr) .ret)),[.mv (.t 4)]⟩
theorem vu:ab Tryz.prog (aa Tryz.prog 151) 151=some pn:=by kernel_rfl
/-! instruction.hash-/
abbrev vp:List AO:=
 [o1 4 (.mv (.c (.n .u32 0)))]
abbrev vo:List AO:=
 [(mt 6 0),
  (mt 7 1),o1 8 (.bin .mul (.t 7) (.c (.n .u32 2654435761))),o1 9 (.bin .xor (.t 6) (.t 8)),o1 10 (.bin .mul (.t 9) (.c (.n .u32 2246822519))),
  (mt 5 10)]
abbrev vn:List AO:=
 [(mt 11 5),
  (mt 12 5),o1 13 (.bin .shr (.t 12) (.c (.n .u64 16))),o1 14 (.bin .xor (.t 11) (.t 13)),
  (mt 4 14)]
abbrev pm:AF:=⟨15,(.seq (.reg vp) (.seq (.reg vo) (.seq (.reg vn) .ret))),[.mv (.t 4)]⟩
theorem vq:ab Tryz.prog (aa Tryz.prog 152) 152=some pm:=by kernel_rfl
/-! instruction.combinations$13-/
abbrev vl:List AO:=
 [o1 4 (.mv (.c (.n .u32 0)))]
abbrev vk:List AO:=
 [(mt 5 0),
  (mt 6 1),o1 7 (.bin .eql (.t 5) (.t 6)),
  (o2 8 49 [.t 7]),
  (mt 4 8)]
abbrev pk:AF:=⟨9,(.seq (.reg vl) (.seq (.reg vk) .ret)),[.mv (.t 4)]⟩
theorem vm:ab Tryz.prog (aa Tryz.prog 153) 153=some pk:=by kernel_rfl
/-! instruction.combinations$14-/
abbrev vi:List AO:=
 [o1 4 (.mv (.c (.n .u32 0)))]
abbrev vh:List AO:=
 [(mt 5 0),
  (mt 6 1),o1 7 (.bin .lss (.t 5) (.t 6)),
  (o2 8 49 [.t 7]),
  (mt 4 8)]
abbrev pj:AF:=⟨9,(.seq (.reg vi) (.seq (.reg vh) .ret)),[.mv (.t 4)]⟩
theorem vj:ab Tryz.prog (aa Tryz.prog 154) 154=some pj:=by kernel_rfl
/-! instruction.combinations$15-/
abbrev vf:List AO:=
 [o1 4 (.mv (.c (.n .u32 0)))]
abbrev ve:List AO:=
 [(mt 5 0),o1 6 (.bin .eql (.t 5) (.c (.n .u32 0))),
  (o2 7 49 [.t 6]),
  (mt 4 7)]
abbrev ph:AF:=⟨8,(.seq (.reg vf) (.seq (.reg ve) .ret)),[.mv (.t 4)]⟩
theorem vg:ab Tryz.prog (aa Tryz.prog 155) 155=some ph:=by kernel_rfl
/-! instruction.combinations$16-/
abbrev vc:List AO:=
 [o1 4 (.mv (.c (.n .u32 0)))]
abbrev u9:List AO:=
 [(mt 5 0),o1 6 (.bin .neq (.t 5) (.c (.n .u32 0))),
  (mt 7 6),
  (o5 8 7 (.mv (.t 1))),
  (o5 9 7 (.bin .neq (.t 8) (.c (.n .u32 0)))),o1 10 (.pick (.t 7) (.t 9) (.c (.b false))),
  (o2 11 49 [.t 10]),
  (mt 4 11)]
abbrev pg:AF:=⟨12,(.seq (.reg vc) (.seq (.reg u9) .ret)),[.mv (.t 4)]⟩
theorem vd:ab Tryz.prog (aa Tryz.prog 156) 156=some pg:=by kernel_rfl
/-! instruction.combinations$17-/
abbrev u6:List AO:=
 [o1 4 (.mv (.c (.n .u32 0)))]
abbrev u5:List AO:=
 [(mt 5 0),o1 6 (.bin .neq (.t 5) (.c (.n .u32 0))),
  (mt 7 6),
  (o4 8 7 (.mv (.t 1))),
  (o4 9 7 (.bin .neq (.t 8) (.c (.n .u32 0)))),o1 10 (.pick (.t 7) (.c (.b true)) (.t 9)),
  (o2 11 49 [.t 10]),
  (mt 4 11)]
abbrev pe:AF:=⟨12,(.seq (.reg u6) (.seq (.reg u5) .ret)),[.mv (.t 4)]⟩
theorem u7:ab Tryz.prog (aa Tryz.prog 157) 157=some pe:=by kernel_rfl
/-! instruction.combinations$18-/
abbrev u3:List AO:=
 [o1 4 (.mv (.c (.n .u32 0)))]
abbrev uZ:List AO:=
 [(mt 5 0),o1 6 (.bin .neq (.t 5) (.c (.n .u32 0))),
  (o2 7 49 [.t 6]),
  (mt 4 7)]
abbrev pd:AF:=⟨8,(.seq (.reg u3) (.seq (.reg uZ) .ret)),[.mv (.t 4)]⟩
theorem u4:ab Tryz.prog (aa Tryz.prog 158) 158=some pd:=by kernel_rfl
end Go.Proofs.YthehakngpbjgjaaGreat