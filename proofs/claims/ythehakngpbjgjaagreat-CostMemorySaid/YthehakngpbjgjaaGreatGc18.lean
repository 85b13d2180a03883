/- A part of the proof of CostMemory: AcCsF. No condition. -/
import Derived.Test.YthehakngpbjgjaaGreatGc14
import Derived.Test.YthehakngpbjgjaaGreatProg
set_option linter.unusedSimpArgs false
set_option linter.unusedVariables false
set_option linter.constructorNameAsVariable false
set_option maxRecDepth 100000
set_option maxHeartbeats 4000000
namespace Go.Proofs.YthehakngpbjgjaaGreat
open Go.RowKit
/-! compactorlaw21.CostMemory-/
abbrev FE:List AO:=
 [o1 1 (.bx 25 0 (.t 0)),o1 2 (.mv (.c (.b false)))]
abbrev FD:List AO:=
 [o1 7 (.ld 3 true (.t 1)),
  (o2 8 7 [.t 7]),o1 9 (.un .not (.t 8))]
abbrev FC:List AO:=
 [(o2 10 8 []),
  (mt 2 10)]
abbrev FB:List AO:=
 [o1 12 (.ld 3 true (.t 1)),
  (o2 13 9 [.t 12]),
  (mt 11 13),o1 14 (.ext 0 (.t 11)),o1 15 (.ext 1 (.t 11)),
  (mt 3 14),
  (mt 4 15)]
abbrev FA:List AO:=
 [o1 17 (.ld 3 true (.t 1)),
  (o2 18 10 [.t 17]),
  (mt 16 18),o1 19 (.ext 0 (.t 16)),o1 20 (.ext 1 (.t 16)),
  (mt 5 19),
  (mt 6 20)]
abbrev Fy:List AO:=
 [(mt 21 3),
  (mt 22 5),o1 23 (.bin .eql (.t 21) (.t 22)),
  (mt 24 23),
  (o5 25 24 (.mv (.t 4))),
  (o5 26 24 (.mv (.t 6))),
  (o5 27 24 (.bin .eql (.t 25) (.t 26))),o1 28 (.pick (.t 24) (.t 27) (.c (.b false))),
  (mt 29 28),⟨some 30,some (29,true),.cl (.c (.f 8 [] [])) []⟩,o1 31 (.pick (.t 29) (.t 30) (.c (.b false))),
  (mt 2 31)]
abbrev FF:AF:=⟨32,(.seq (.reg FE) (.seq (.seq (.reg FD) (.cond (.t 9) (.seq (.reg FC) .ret) .skip)) (.seq (.reg FB) (.seq (.reg FA) (.seq (.reg Fy) .ret))))),[.mv (.t 2)]⟩
theorem qI:ae Tryz.prog (aa Tryz.prog 3) 3=some FF:=by kernel_rfl
/-! compactorlaw21.CostCompares-/
abbrev Fu:List AO:=
 [o1 2 (.bx 34 0 (.t 0)),o1 3 (.bx 34 0 (.t 1)),o1 4 (.mv (.c (.b false)))]
abbrev Fw:List (Nat×AO):=
 [(1,(o1 5 (.ld 2 true (.t 2)))),(1,(o1 6 (.ld 2 true (.t 3)))),(1,(o1 8 (.ld 2 true (.t 2)))),(1,(o1 9 (.ld 2 true (.t 3)))),
  (0,(o2 7 11 [.t 5,.t 6])),
  (0,(o2 10 12 [.t 8,.t 9])),(2,(o1 11 (.eq false (.st [(0,1,.n),(1,1,.n)]) (.t 7) (.t 10)))),
  (2,(mt 12 11)),
  (1,(o5 13 12 (.ld 2 true (.t 2)))),
  (1,(o5 14 12 (.ld 2 true (.t 3)))),
  (1,(o5 16 12 (.ld 2 true (.t 2)))),
  (1,(o5 17 12 (.ld 2 true (.t 3)))),(0,⟨some 15,some (12,true),.cl (.c (.f 13 [] [])) [.t 13,.t 14]⟩),(3,⟨some 18,some (12,true),.cl (.c (.f 14 [] [])) [.t 16,.t 17]⟩),
  (2,(o5 19 12 (.eq false .b (.t 15) (.t 18)))),(2,(o1 20 (.pick (.t 12) (.t 19) (.c (.b false))))),
  (2,(mt 21 20)),(3,⟨some 22,some (21,true),.cl (.c (.f 8 [] [])) []⟩),(2,(o1 23 (.pick (.t 21) (.t 22) (.c (.b false))))),
  (2,(mt 4 23))]
abbrev Fx:AF:=⟨24,(.seq (.reg Fu) (.seq (.mix Fw) .ret)),[.mv (.t 4)]⟩
theorem Fv:ae Tryz.prog (aa Tryz.prog 4) 4=some Fx:=by kernel_rfl
/-! compactorlaw21.CostOrders-/
abbrev Fm:List AO:=
 [o1 1 (.bx 39 0 (.t 0)),o1 2 (.mv (.c (.b false)))]
abbrev Fl:List AO:=
 [o1 3 (.al 40 [.n .i64 0,.n .i64 0,.n .i64 0,.n .i64 0,.n .i64 0,.n .i64 0])]
abbrev Fk:List AO:=
 [o1 6 (.mv (ci 0))]
abbrev Fj:List AO:=
 [o1 7 (.bin .lss (.t 6) (ci 3))]
abbrev Fi:List AO:=
 [(mt 8 6),
  (mt 4 8)]
abbrev Fo:List (Nat×AO):=
 [(2,(mt 9 4)),
  (2,(mt 10 4)),(2,(o1 11 (.iaa 3 2 (.t 1) (.t 10)))),(2,(o1 12 (.iaa 2 1 (.t 11) (ci 0)))),
  (2,(mt 15 4)),(2,(o1 16 (.iaa 3 2 (.t 1) (.t 15)))),(2,(o1 17 (.iaa 2 1 (.t 16) (ci 1)))),(1,(o1 13 (.ld 1 false (.t 12)))),(2,(o1 14 (.cvi .i64 (.t 13)))),(1,(o1 18 (.ld 1 false (.t 17)))),(2,(o1 19 (.cvi .i64 (.t 18)))),(2,(o1 20 (.bd [.n .i64 0,.n .i64 0] [(0,1,(.t 14)),(1,1,(.t 19))]))),(2,(o1 21 (.iaa 3 2 (.t 3) (.t 9)))),
  (3,(o3 (.st 2 (.t 21) (.t 20))))]
abbrev Fq:AC:=
 (.seq (.reg Fi) (.mix Fo))
abbrev Fh:List AO:=
 [o1 22 (.bin .add (.t 6) (ci 1)),
  (mt 6 22)]
abbrev Fs:AC:=
 (.seq (.reg Fj) (.seq (.cond (.t 7) .skip (.exit 0)) (.seq (.block 1 Fq) (.reg Fh))))
abbrev Fp:AC:=
 (.loop Fs)
abbrev tf:List AO:=
 [o1 23 (.iaa 3 2 (.t 3) (ci 0)),o1 24 (.ld 2 true (.t 23)),o1 25 (.iaa 3 2 (.t 3) (ci 1)),o1 26 (.ld 2 true (.t 25)),
  (o2 27 11 [.t 24,.t 26]),o1 5 (.al 34 [.n .i64 0,.n .i64 0]),
  (o3 (.st 2 (.t 5) (.t 27)))]
abbrev te:List AO:=
 [o1 28 (.ld 2 true (.t 5)),o1 29 (.iaa 3 2 (.t 3) (ci 2)),o1 30 (.ld 2 true (.t 29)),
  (o2 31 13 [.t 28,.t 30]),
  (mt 32 31),
  (o5 33 32 (.iaa 3 2 (.t 3) (ci 0))),
  (o5 34 32 (.ld 2 true (.t 33))),
  (o5 35 32 (.iaa 3 2 (.t 3) (ci 2))),
  (o5 36 32 (.ld 2 true (.t 35))),⟨some 37,some (32,true),.cl (.c (.f 13 [] [])) [.t 34,.t 36]⟩,
  (o5 38 32 (.un .not (.t 37))),
  (o5 39 32 (.mv (.t 38))),
  (o4 40 39 (.iaa 3 2 (.t 3) (ci 1))),
  (o4 41 39 (.ld 2 true (.t 40))),
  (o4 42 39 (.iaa 3 2 (.t 3) (ci 2))),
  (o4 43 39 (.ld 2 true (.t 42))),⟨some 44,some (39,false),.cl (.c (.f 13 [] [])) [.t 41,.t 43]⟩,
  (o4 45 39 (.un .not (.t 44))),
  (o5 46 32 (.pick (.t 39) (.c (.b true)) (.t 45))),o1 47 (.pick (.t 32) (.t 46) (.c (.b false))),
  (mt 48 47),
  (o4 49 48 (.iaa 3 2 (.t 3) (ci 0))),
  (o4 50 48 (.ld 2 true (.t 49))),
  (o4 51 48 (.ld 2 true (.t 5))),⟨some 52,some (48,false),.cl (.c (.f 13 [] [])) [.t 50,.t 51]⟩,
  (o4 53 48 (.un .not (.t 52))),o1 54 (.pick (.t 48) (.c (.b true)) (.t 53)),
  (mt 55 54),
  (o4 56 55 (.iaa 3 2 (.t 3) (ci 1))),
  (o4 57 55 (.ld 2 true (.t 56))),
  (o4 58 55 (.ld 2 true (.t 5))),⟨some 59,some (55,false),.cl (.c (.f 13 [] [])) [.t 57,.t 58]⟩,
  (o4 60 55 (.un .not (.t 59))),o1 61 (.pick (.t 55) (.c (.b true)) (.t 60))]
abbrev td:List AO:=
 [o1 2 (.mv (.c (.b false)))]
abbrev tc:List AO:=
 [o1 62 (.iaa 3 2 (.t 3) (ci 0)),o1 63 (.ld 2 true (.t 62)),o1 64 (.iaa 3 2 (.t 3) (ci 1)),o1 65 (.ld 2 true (.t 64)),
  (o2 66 13 [.t 63,.t 65]),
  (mt 67 66),
  (o5 68 67 (.iaa 3 2 (.t 3) (ci 1))),
  (o5 69 67 (.ld 2 true (.t 68))),
  (o5 70 67 (.iaa 3 2 (.t 3) (ci 2))),
  (o5 71 67 (.ld 2 true (.t 70))),⟨some 72,some (67,true),.cl (.c (.f 13 [] [])) [.t 69,.t 71]⟩,o1 73 (.pick (.t 67) (.t 72) (.c (.b false))),
  (mt 74 73),
  (o5 75 74 (.iaa 3 2 (.t 3) (ci 0))),
  (o5 76 74 (.ld 2 true (.t 75))),
  (o5 77 74 (.iaa 3 2 (.t 3) (ci 2))),
  (o5 78 74 (.ld 2 true (.t 77))),⟨some 79,some (74,true),.cl (.c (.f 13 [] [])) [.t 76,.t 78]⟩,
  (o5 80 74 (.un .not (.t 79))),o1 81 (.pick (.t 74) (.t 80) (.c (.b false)))]
abbrev ta:List AO:=
 [o1 2 (.mv (.c (.b false)))]
abbrev th:List (Nat×AO):=
 [(2,(o1 82 (.iaa 3 2 (.t 3) (ci 1)))),(2,(o1 84 (.iaa 3 2 (.t 3) (ci 0)))),(1,(o1 83 (.ld 2 true (.t 82)))),(1,(o1 85 (.ld 2 true (.t 84)))),(1,(o1 87 (.ld 2 true (.t 5)))),
  (0,(o2 86 11 [.t 83,.t 85])),(2,(o1 88 (.eq false (.st [(0,1,.n),(1,1,.n)]) (.t 86) (.t 87)))),
  (2,(mt 89 88)),
  (2,(o5 90 89 (.iaa 3 2 (.t 3) (ci 0)))),
  (2,(o5 92 89 (.bd [.n .i64 0,.n .i64 0] []))),
  (2,(o5 94 89 (.iaa 3 2 (.t 3) (ci 0)))),
  (1,(o5 91 89 (.ld 2 true (.t 90)))),
  (1,(o5 95 89 (.ld 2 true (.t 94)))),(0,⟨some 93,some (89,true),.cl (.c (.f 11 [] [])) [.t 91,.t 92]⟩),
  (2,(o5 96 89 (.eq false (.st [(0,1,.n),(1,1,.n)]) (.t 93) (.t 95)))),(2,(o1 97 (.pick (.t 89) (.t 96) (.c (.b false))))),
  (2,(mt 98 97)),
  (2,(o5 99 98 (.iaa 3 2 (.t 3) (ci 0)))),
  (2,(o5 101 98 (.iaa 3 2 (.t 3) (ci 0)))),
  (1,(o5 100 98 (.ld 2 true (.t 99)))),
  (1,(o5 102 98 (.ld 2 true (.t 101)))),(3,⟨some 103,some (98,true),.cl (.c (.f 13 [] [])) [.t 100,.t 102]⟩),(2,(o1 104 (.pick (.t 98) (.t 103) (.c (.b false))))),
  (2,(mt 105 104)),(3,⟨some 106,some (105,true),.cl (.c (.f 8 [] [])) []⟩),(2,(o1 107 (.pick (.t 105) (.t 106) (.c (.b false))))),
  (2,(mt 2 107))]
abbrev Ft:AF:=⟨108,(.seq (.reg Fm) (.seq (.reg Fl) (.seq (.seq (.reg Fk) (.block 0 Fp)) (.seq (.reg tf) (.seq (.seq (.reg te) (.cond (.t 61) (.seq (.reg td) .ret) .skip)) (.seq (.seq (.reg tc) (.cond (.t 81) (.seq (.reg ta) .ret) .skip)) (.seq (.mix th) .ret))))))),[.mv (.t 2)]⟩
theorem Fn:ae Tryz.prog (aa Tryz.prog 5) 5=some Ft:=by kernel_rfl
/-! compactorlaw21.CostBounds-/
abbrev Fe:List AO:=
 [o1 2 (.bx 25 0 (.t 0)),o1 3 (.bx 44 0 (.t 1)),o1 4 (.mv (.c (.b false)))]
abbrev Fd:List AO:=
 [o1 13 (.ld 3 true (.t 2)),o1 14 (.ld 4 true (.t 3)),
  (o2 15 15 [.t 13,.t 14]),o1 16 (.un .not (.t 15))]
abbrev Fc:List AO:=
 [(o2 17 8 []),
  (mt 4 17)]
abbrev Fb:List AO:=
 [o1 19 (.ld 3 true (.t 2)),o1 20 (.ld 4 true (.t 3)),
  (o2 21 16 [.t 19,.t 20]),
  (mt 18 21),o1 22 (.ext 0 (.t 18)),o1 23 (.ext 1 (.t 18)),
  (mt 5 22),
  (mt 6 23)]
abbrev Fa:List AO:=
 [o1 25 (.ld 3 true (.t 2)),o1 26 (.ld 4 true (.t 3)),
  (o2 27 17 [.t 25,.t 26]),
  (mt 24 27),o1 28 (.ext 0 (.t 24)),o1 29 (.ext 1 (.t 24)),
  (mt 7 28),
  (mt 8 29)]
abbrev E9:List AO:=
 [o1 31 (.ld 3 true (.t 2)),o1 32 (.ld 4 true (.t 3)),
  (o2 33 18 [.t 31,.t 32]),
  (mt 30 33),o1 34 (.ext 0 (.t 30)),o1 35 (.ext 1 (.t 30)),
  (mt 9 34),
  (mt 10 35)]
abbrev E8:List AO:=
 [o1 37 (.ld 3 true (.t 2)),o1 38 (.ld 4 true (.t 3)),
  (o2 39 19 [.t 37,.t 38]),
  (mt 36 39),o1 40 (.ext 0 (.t 36)),o1 41 (.ext 1 (.t 36)),
  (mt 11 40),
  (mt 12 41)]
abbrev E7:List AO:=
 [(mt 42 5),
  (mt 43 7),o1 44 (.bin .eql (.t 42) (.t 43)),
  (mt 45 44),
  (o5 46 45 (.mv (.t 6))),
  (o5 47 45 (.mv (.t 8))),
  (o5 48 45 (.bin .eql (.t 46) (.t 47))),o1 49 (.pick (.t 45) (.t 48) (.c (.b false))),
  (mt 50 49),
  (o5 51 50 (.mv (.t 9))),
  (o5 52 50 (.mv (.t 11))),
  (o5 53 50 (.bin .eql (.t 51) (.t 52))),o1 54 (.pick (.t 50) (.t 53) (.c (.b false))),
  (mt 55 54),
  (o5 56 55 (.mv (.t 10))),
  (o5 57 55 (.mv (.t 12))),
  (o5 58 55 (.bin .eql (.t 56) (.t 57))),o1 59 (.pick (.t 55) (.t 58) (.c (.b false))),
  (mt 60 59),⟨some 61,some (60,true),.cl (.c (.f 8 [] [])) []⟩,o1 62 (.pick (.t 60) (.t 61) (.c (.b false))),
  (mt 4 62)]
abbrev Fg:AF:=⟨63,(.seq (.reg Fe) (.seq (.seq (.reg Fd) (.cond (.t 16) (.seq (.reg Fc) .ret) .skip)) (.seq (.reg Fb) (.seq (.reg Fa) (.seq (.reg E9) (.seq (.reg E8) (.seq (.reg E7) .ret))))))),[.mv (.t 4)]⟩
theorem Ff:ae Tryz.prog (aa Tryz.prog 6) 6=some Fg:=by kernel_rfl
/-! compactorref15.Few-/
abbrev E3:List AO:=
 [o1 1 (.bx 25 0 (.t 0)),o1 2 (.mv (.c (.b false)))]
abbrev E2:List AO:=
 [o1 4 (.fa 0 (.t 1)),o1 5 (.ld 1 false (.t 4)),o1 6 (.len (.t 5)),o1 7 (.bin .gtr (.t 6) (ci 20)),
  (mt 8 7),
  (o4 9 8 (.fa 2 (.t 1))),
  (o4 10 8 (.ld 1 false (.t 9))),
  (o4 11 8 (.len (.t 10))),
  (o4 12 8 (.bin .gtr (.t 11) (ci 200))),o1 13 (.pick (.t 8) (.c (.b true)) (.t 12)),
  (mt 14 13),
  (o4 15 14 (.fa 2 (.t 1))),
  (o4 16 14 (.ld 1 false (.t 15))),⟨some 17,some (14,false),.cl (.c (.f 20 [] [])) [.t 16]⟩,
  (o4 18 14 (.un .not (.t 17))),o1 19 (.pick (.t 14) (.c (.b true)) (.t 18))]
abbrev E1:List AO:=
 [o1 2 (.mv (.c (.b false)))]
abbrev E0:List AO:=
 [o1 3 (.mv (ci 0))]
abbrev EZ:List AO:=
 [(mt 20 3),o1 21 (.fa 0 (.t 1)),o1 22 (.ld 1 false (.t 21)),o1 23 (.len (.t 22)),o1 24 (.bin .lss (.t 20) (.t 23))]
abbrev EY:List AO:=
 [o1 27 (.fa 0 (.t 1)),o1 28 (.ld 1 false (.t 27)),
  (mt 29 3),o1 30 (.ia 2 (.t 28) (.t 29)),o1 31 (.fa 1 (.t 30)),o1 32 (.ld 1 false (.t 31)),o1 33 (.bin .gtr (.t 32) (ci 300)),
  (mt 34 33),
  (o5 35 34 (.fa 0 (.t 1))),
  (o5 36 34 (.ld 1 false (.t 35))),
  (o5 37 34 (.mv (.t 3))),
  (o5 38 34 (.ia 2 (.t 36) (.t 37))),
  (o5 39 34 (.fa 1 (.t 38))),
  (o5 40 34 (.ld 1 false (.t 39))),
  (o5 41 34 (.bin .leq (.t 40) (ci 65536))),o1 42 (.pick (.t 34) (.t 41) (.c (.b false)))]
abbrev EX:List AO:=
 [o1 2 (.mv (.c (.b false)))]
abbrev E4:AC:=
 (.seq (.reg EY) (.cond (.t 42) (.seq (.reg EX) .ret) .skip))
abbrev EW:List AO:=
 [(mt 25 3),o1 26 (.bin .add (.t 25) (ci 1)),
  (mt 3 26)]
abbrev E5:AC:=
 (.seq (.seq (.reg EZ) (.cond (.t 24) .skip (.exit 0))) (.seq (.block 1 E4) (.reg EW)))
abbrev s9:AC:=
 (.loop E5)
abbrev s7:List AO:=
 [o1 2 (.mv (.c (.b true)))]
abbrev E6:AF:=⟨43,(.seq (.reg E3) (.seq (.seq (.reg E2) (.cond (.t 19) (.seq (.reg E1) .ret) .skip)) (.seq (.seq (.reg E0) (.block 0 s9)) (.seq (.reg s7) .ret)))),[.mv (.t 2)]⟩
theorem qH:ae Tryz.prog (aa Tryz.prog 7) 7=some E6:=by kernel_rfl
/-! compactorref21.Memory-/
abbrev EU:List AO:=
 [o1 1 (.bx 25 0 (.t 0)),o1 2 (.mv (ci 0)),o1 3 (.mv (ci 0))]
abbrev ET:List AO:=
 [o1 7 (.ld 3 true (.t 1)),
  (o2 8 25 [.t 7]),
  (mt 4 8)]
abbrev ES:List AO:=
 [(mt 9 4),o1 10 (.bin .neq (.t 9) (ci 0))]
abbrev EP:List AO:=
 [(mt 11 4),o1 2 (.mv (ci 0)),
  (mt 3 11)]
abbrev EO:List AO:=
 [o1 12 (.fa 1 (.t 1)),o1 13 (.ld 1 false (.t 12)),o1 14 (.bin .mul (ci 4) (.t 13)),o1 15 (.bin .add (.t 14) (ci 128)),o1 16 (.bin .add (.t 15) (ci 64)),
  (mt 5 16)]
abbrev EM:List AO:=
 [o1 6 (.mv (ci 0))]
abbrev EL:List AO:=
 [(mt 17 6),o1 18 (.fa 0 (.t 1)),o1 19 (.ld 1 false (.t 18)),o1 20 (.len (.t 19)),o1 21 (.bin .lss (.t 17) (.t 20))]
abbrev EK:List AO:=
 [o1 24 (.fa 0 (.t 1)),o1 25 (.ld 1 false (.t 24)),
  (mt 26 6),o1 27 (.ia 2 (.t 25) (.t 26)),o1 28 (.fa 0 (.t 27)),o1 29 (.ld 1 false (.t 28))]
abbrev EJ:List AO:=
 [(mt 30 5),o1 31 (.fa 0 (.t 1)),o1 32 (.ld 1 false (.t 31)),
  (mt 33 6),o1 34 (.ia 2 (.t 32) (.t 33)),o1 35 (.fa 1 (.t 34)),o1 36 (.ld 1 false (.t 35)),o1 37 (.bin .mul (ci 4) (.t 36)),o1 38 (.bin .add (.t 30) (.t 37)),
  (mt 5 38)]
abbrev EI:List AO:=
 [(mt 39 5),o1 40 (.fa 0 (.t 1)),o1 41 (.ld 1 false (.t 40)),
  (mt 42 6),o1 43 (.ia 2 (.t 41) (.t 42)),o1 44 (.fa 1 (.t 43)),o1 45 (.ld 1 false (.t 44)),o1 46 (.bin .add (.t 39) (.t 45)),
  (mt 5 46)]
abbrev s5:AC:=
 (.seq (.reg EK) (.cond (.t 29) (.reg EJ) (.reg EI)))
abbrev sZ:List AO:=
 [(mt 22 6),o1 23 (.bin .add (.t 22) (ci 1)),
  (mt 6 23)]
abbrev s6:AC:=
 (.seq (.seq (.reg EL) (.cond (.t 21) .skip (.exit 0))) (.seq (.block 1 s5) (.reg sZ)))
abbrev s4:AC:=
 (.loop s6)
abbrev sY:List AO:=
 [(mt 47 5),
  (mt 2 47),o1 3 (.mv (ci 0))]
abbrev EV:AF:=⟨48,(.seq (.reg EU) (.seq (.seq (.reg ET) (.seq (.reg ES) (.cond (.t 10) (.seq (.reg EP) .ret) .skip))) (.seq (.reg EO) (.seq (.seq (.reg EM) (.block 0 s4)) (.seq (.reg sY) .ret))))),[.mv (.t 2),.mv (.t 3)]⟩
theorem qG:ae Tryz.prog (aa Tryz.prog 10) 10=some EV:=by kernel_rfl
/-! compactorref21.Add-/
abbrev ED:List AO:=
 [o1 2 (.bx 34 0 (.t 0)),o1 3 (.bx 34 0 (.t 1)),o1 4 (.al 34 [.n .i64 0,.n .i64 0])]
abbrev EF:List (Nat×AO):=
 [(2,(o1 5 (.fa 0 (.t 2)))),(2,(o1 7 (.fa 0 (.t 3)))),(2,(o1 10 (.fa 1 (.t 2)))),(2,(o1 12 (.fa 1 (.t 3)))),(1,(o1 6 (.ld 1 false (.t 5)))),(1,(o1 8 (.ld 1 false (.t 7)))),(1,(o1 11 (.ld 1 false (.t 10)))),(1,(o1 13 (.ld 1 false (.t 12)))),
  (0,(o2 9 27 [.t 6,.t 8])),
  (3,(o2 14 27 [.t 11,.t 13])),(2,(o1 15 (.bd [.n .i64 0,.n .i64 0] [(0,1,(.t 9)),(1,1,(.t 14))]))),
  (3,(o3 (.st 2 (.t 4) (.t 15))))]
abbrev EG:AF:=⟨16,(.seq (.reg ED) (.seq (.mix EF) .ret)),[.ld 2 true (.t 4)]⟩
theorem EE:ae Tryz.prog (aa Tryz.prog 12) 12=some EG:=by kernel_rfl
/-! compactorref21.Fits-/
abbrev EA:List AO:=
 [o1 2 (.bx 34 0 (.t 0)),o1 3 (.bx 34 0 (.t 1)),o1 4 (.mv (.c (.b false)))]
abbrev Ez:List AO:=
 [o1 5 (.ld 2 true (.t 2)),
  (o2 6 29 [.t 5]),
  (mt 7 6),
  (o5 8 7 (.ld 2 true (.t 3))),⟨some 9,some (7,true),.cl (.c (.f 29 [] [])) [.t 8]⟩,o1 10 (.pick (.t 7) (.t 9) (.c (.b false))),
  (mt 11 10),
  (o5 12 11 (.fa 0 (.t 2))),
  (o5 13 11 (.ld 1 false (.t 12))),
  (o5 14 11 (.fa 0 (.t 3))),
  (o5 15 11 (.ld 1 false (.t 14))),
  (o5 16 11 (.bin .leq (.t 13) (.t 15))),o1 17 (.pick (.t 11) (.t 16) (.c (.b false))),
  (mt 18 17),
  (o5 19 18 (.fa 1 (.t 2))),
  (o5 20 18 (.ld 1 false (.t 19))),
  (o5 21 18 (.fa 1 (.t 3))),
  (o5 22 18 (.ld 1 false (.t 21))),
  (o5 23 18 (.bin .leq (.t 20) (.t 22))),o1 24 (.pick (.t 18) (.t 23) (.c (.b false))),
  (mt 4 24)]
abbrev EC:AF:=⟨25,(.seq (.reg EA) (.seq (.reg Ez) .ret)),[.mv (.t 4)]⟩
theorem EB:ae Tryz.prog (aa Tryz.prog 14) 14=some EC:=by kernel_rfl
/-! compactorlaw21.few-/
abbrev Ew:List AO:=
 [o1 2 (.bx 25 0 (.t 0)),o1 3 (.bx 44 0 (.t 1)),o1 4 (.mv (.c (.b false)))]
abbrev Ev:List AO:=
 [o1 5 (.ld 3 true (.t 2)),
  (o2 6 7 [.t 5]),
  (mt 7 6),
  (o5 8 7 (.ld 4 true (.t 3))),⟨some 9,some (7,true),.cl (.c (.f 30 [] [])) [.t 8]⟩,o1 10 (.pick (.t 7) (.t 9) (.c (.b false))),
  (mt 4 10)]
abbrev Ey:AF:=⟨11,(.seq (.reg Ew) (.seq (.reg Ev) .ret)),[.mv (.t 4)]⟩
theorem Ex:ae Tryz.prog (aa Tryz.prog 15) 15=some Ey:=by kernel_rfl
/-! compactorref21.Steps-/
abbrev Es:List AO:=
 [o1 2 (.bx 25 0 (.t 0)),o1 3 (.bx 44 0 (.t 1)),o1 4 (.mv (ci 0)),o1 5 (.mv (ci 0))]
abbrev Er:List AO:=
 [o1 9 (.ld 3 true (.t 2)),o1 10 (.ld 4 true (.t 3)),
  (o2 11 35 [.t 9,.t 10]),
  (mt 8 11),o1 12 (.ext 0 (.t 8)),o1 13 (.ext 1 (.t 8)),
  (mt 6 12),
  (mt 7 13)]
abbrev Ep:List AO:=
 [(mt 14 7),o1 15 (.bin .neq (.t 14) (ci 0))]
abbrev Eo:List AO:=
 [(mt 16 7),o1 4 (.mv (ci 0)),
  (mt 5 16)]
abbrev En:List AO:=
 [(mt 17 6),o1 18 (.ld 4 true (.t 3)),
  (o2 19 37 [.t 17,.t 18]),
  (o2 20 36 [.t 19]),o1 21 (.ext 0 (.t 20)),o1 22 (.ext 1 (.t 20)),
  (mt 4 21),
  (mt 5 22)]
abbrev Eu:AF:=⟨23,(.seq (.reg Es) (.seq (.reg Er) (.seq (.seq (.reg Ep) (.cond (.t 15) (.seq (.reg Eo) .ret) .skip)) (.seq (.reg En) .ret)))),[.mv (.t 4),.mv (.t 5)]⟩
theorem Et:ae Tryz.prog (aa Tryz.prog 17) 17=some Eu:=by kernel_rfl
/-! cost.Emits-/
abbrev Ek:List AO:=
 [o1 2 (.bx 25 0 (.t 0)),o1 3 (.bx 44 0 (.t 1)),o1 4 (.mv (ci 0)),o1 5 (.mv (ci 0))]
abbrev Ej:List AO:=
 [o1 10 (.ld 3 true (.t 2)),o1 11 (.ld 4 true (.t 3)),
  (o2 12 31 [.t 10,.t 11]),
  (mt 9 12),o1 13 (.ext 0 (.t 9)),o1 14 (.ext 1 (.t 9)),o1 15 (.ext 2 (.t 9)),o1 6 (.al 69 [.sl0,.cv (.map none)]),
  (o3 (.st 2 (.t 6) (.t 13))),
  (mt 7 14),
  (mt 8 15)]
abbrev Ei:List AO:=
 [(mt 16 8),o1 17 (.bin .neq (.t 16) (ci 0))]
abbrev Eh:List AO:=
 [(mt 18 8),o1 4 (.mv (ci 0)),
  (mt 5 18)]
abbrev Eg:List AO:=
 [o1 19 (.ld 2 true (.t 6)),
  (mt 20 7),o1 21 (.ld 2 true (.t 6)),o1 22 (.mf 38 [.t 21] []),
  (o2 23 33 [.t 19,.t 20,.t 22,(ci 0)]),
  (o2 24 32 [.t 23]),o1 25 (.ext 0 (.t 24)),o1 26 (.ext 1 (.t 24)),
  (mt 4 25),
  (mt 5 26)]
abbrev Em:AF:=⟨27,(.seq (.reg Ek) (.seq (.reg Ej) (.seq (.seq (.reg Ei) (.cond (.t 17) (.seq (.reg Eh) .ret) .skip)) (.seq (.reg Eg) .ret)))),[.mv (.t 4),.mv (.t 5)]⟩
theorem El:ae Tryz.prog (aa Tryz.prog 18) 18=some Em:=by kernel_rfl
/-! compactorref21.Emits-/
abbrev Ed:List AO:=
 [o1 2 (.bx 25 0 (.t 0)),o1 3 (.bx 44 0 (.t 1)),o1 4 (.mv (ci 0)),o1 5 (.mv (ci 0))]
abbrev Ec:List AO:=
 [o1 9 (.ld 3 true (.t 2)),o1 10 (.ld 4 true (.t 3)),
  (o2 11 35 [.t 9,.t 10]),
  (mt 8 11),o1 12 (.ext 0 (.t 8)),o1 13 (.ext 1 (.t 8)),
  (mt 6 12),
  (mt 7 13)]
abbrev Eb:List AO:=
 [(mt 14 7),o1 15 (.bin .neq (.t 14) (ci 0))]
abbrev Ea:List AO:=
 [(mt 16 7),o1 4 (.mv (ci 0)),
  (mt 5 16)]
abbrev D9:List AO:=
 [(mt 17 6),o1 18 (.fa 2 (.t 2)),o1 19 (.ld 1 false (.t 18)),o1 20 (.ld 4 true (.t 3)),
  (o2 21 39 [.t 17,.t 19,.t 20]),
  (o2 22 36 [.t 21]),o1 23 (.ext 0 (.t 22)),o1 24 (.ext 1 (.t 22)),
  (mt 4 23),
  (mt 5 24)]
abbrev Ef:AF:=⟨25,(.seq (.reg Ed) (.seq (.reg Ec) (.seq (.seq (.reg Eb) (.cond (.t 15) (.seq (.reg Ea) .ret) .skip)) (.seq (.reg D9) .ret)))),[.mv (.t 4),.mv (.t 5)]⟩
theorem Ee:ae Tryz.prog (aa Tryz.prog 19) 19=some Ef:=by kernel_rfl
/-! compactorref15.Shallow-/
abbrev D7:List AO:=
 [o1 2 (.mv (.c (.b false)))]
abbrev D6:List AO:=
 [o1 3 (.mv (.c .sl0))]
abbrev D5:List AO:=
 [o1 4 (.mv (ci 0))]
abbrev D4:List AO:=
 [o1 5 (.mv (ci 0))]
abbrev D3:List AO:=
 [(mt 7 5),
  (mt 8 0),o1 9 (.len (.t 8)),o1 10 (.bin .lss (.t 7) (.t 9)),
  (mt 11 10),
  (o5 12 11 (.mv (.t 4))),
  (o5 13 11 (.bin .leq (.t 12) (ci 3))),o1 14 (.pick (.t 11) (.t 13) (.c (.b false)))]
abbrev D2:List AO:=
 [(mt 17 0),
  (mt 18 5),o1 19 (.ia 2 (.t 17) (.t 18)),o1 20 (.fa 0 (.t 19)),o1 21 (.ld 1 false (.t 20))]
abbrev D1:List AO:=
 [o1 23 (.bin .eql (.t 21) (ci 29)),
  (mt 22 23)]
abbrev D0:List AO:=
 [(mt 24 3),o1 25 (.bs 4 1 1 [.b false] [(0,1,(.c (.b true)))]),o1 26 (.app 4 1 1 (.t 24) (.t 25)),
  (mt 27 4),o1 28 (.bin .add (.t 27) (ci 1)),
  (mt 3 26),
  (mt 4 28)]
abbrev DZ:List AO:=
 [o1 30 (.bin .eql (.t 21) (ci 27)),
  (mt 29 30)]
abbrev DY:List AO:=
 [(mt 31 3),o1 32 (.bs 4 1 1 [.b false] [(0,1,(.c (.b false)))]),o1 33 (.app 4 1 1 (.t 31) (.t 32)),
  (mt 3 33)]
abbrev sS:List AO:=
 [o1 35 (.bin .eql (.t 21) (ci 31)),
  (mt 34 35)]
abbrev sR:List AO:=
 [(mt 36 3),o1 37 (.len (.t 36)),o1 38 (.bin .sub (.t 37) (ci 1)),
  (mt 6 38)]
abbrev sQ:List AO:=
 [(mt 39 6),o1 40 (.bin .geq (.t 39) (ci 0))]
abbrev sP:List AO:=
 [(mt 41 3),
  (mt 42 6),o1 43 (.ia 1 (.t 41) (.t 42)),o1 44 (.ld 1 false (.t 43))]
abbrev sO:List AO:=
 [(mt 45 4),o1 46 (.bin .sub (.t 45) (ci 1)),
  (mt 4 46)]
abbrev sN:List AO:=
 [(mt 47 3),
  (mt 48 6),o1 49 (.sl 1 (.t 47) none (some (.t 48))),
  (mt 3 49)]
abbrev sW:AC:=
 (.seq (.reg D1) (.cond (.t 22) (.reg D0) (.seq (.reg DZ) (.cond (.t 29) (.reg DY) (.seq (.reg sS) (.cond (.t 34) (.seq (.reg sR) (.seq (.reg sQ) (.cond (.t 40) (.seq (.seq (.reg sP) (.cond (.t 44) (.reg sO) .skip)) (.reg sN)) .skip))) .skip))))))
abbrev sV:AC:=
 (.seq (.reg D2) (.block 2 sW))
abbrev sM:List AO:=
 [(mt 15 5),o1 16 (.bin .add (.t 15) (ci 1)),
  (mt 5 16)]
abbrev sX:AC:=
 (.seq (.seq (.reg D3) (.cond (.t 14) .skip (.exit 0))) (.seq (.block 1 sV) (.reg sM)))
abbrev sU:AC:=
 (.loop sX)
abbrev sL:List AO:=
 [(mt 50 4),o1 51 (.bin .leq (.t 50) (ci 3)),
  (mt 2 51)]
abbrev D8:AF:=⟨52,(.seq (.reg D7) (.seq (.reg D6) (.seq (.reg D5) (.seq (.seq (.reg D4) (.block 0 sU)) (.seq (.reg sL) .ret))))),[.mv (.t 2)]⟩
theorem qF:ae Tryz.prog (aa Tryz.prog 20) 20=some D8:=by kernel_rfl
/-! compactorref15.Form-/
abbrev DV:List AO:=
 [o1 1 (.bx 25 0 (.t 0)),o1 2 (.mv (ci 0))]
abbrev DU:List AO:=
 [o1 7 (.fa 0 (.t 1)),o1 8 (.ld 1 false (.t 7)),o1 9 (.len (.t 8)),o1 10 (.bin .gtr (.t 9) (ci 8))]
abbrev DT:List AO:=
 [o1 2 (.mv (ci 6))]
abbrev DS:List AO:=
 [o1 3 (.mv (ci 0))]
abbrev DR:List AO:=
 [o1 4 (.mv (ci 0))]
abbrev DQ:List AO:=
 [(mt 11 4),o1 12 (.fa 0 (.t 1)),o1 13 (.ld 1 false (.t 12)),o1 14 (.len (.t 13)),o1 15 (.bin .lss (.t 11) (.t 14))]
abbrev DP:List AO:=
 [o1 18 (.fa 0 (.t 1)),o1 19 (.ld 1 false (.t 18)),
  (mt 20 4),o1 21 (.ia 2 (.t 19) (.t 20)),o1 22 (.fa 1 (.t 21)),o1 23 (.ld 1 false (.t 22)),o1 24 (.bin .lss (.t 23) (ci 1)),
  (mt 25 24),
  (o4 26 25 (.fa 0 (.t 1))),
  (o4 27 25 (.ld 1 false (.t 26))),
  (o4 28 25 (.mv (.t 4))),
  (o4 29 25 (.ia 2 (.t 27) (.t 28))),
  (o4 30 25 (.fa 1 (.t 29))),
  (o4 31 25 (.ld 1 false (.t 30))),
  (o4 32 25 (.bin .gtr (.t 31) (ci 65536))),o1 33 (.pick (.t 25) (.c (.b true)) (.t 32))]
abbrev DN:List AO:=
 [o1 2 (.mv (ci 2))]
abbrev DM:List AO:=
 [(mt 34 3),o1 35 (.fa 0 (.t 1)),o1 36 (.ld 1 false (.t 35)),
  (mt 37 4),o1 38 (.ia 2 (.t 36) (.t 37)),o1 39 (.fa 1 (.t 38)),o1 40 (.ld 1 false (.t 39)),o1 41 (.bin .add (.t 34) (.t 40)),
  (mt 3 41)]
abbrev DW:AC:=
 (.seq (.seq (.reg DP) (.cond (.t 33) (.seq (.reg DN) .ret) .skip)) (.reg DM))
abbrev sF:List AO:=
 [(mt 16 4),o1 17 (.bin .add (.t 16) (ci 1)),
  (mt 4 17)]
abbrev sK:AC:=
 (.seq (.seq (.reg DQ) (.cond (.t 15) .skip (.exit 0))) (.seq (.block 1 DW) (.reg sF)))
abbrev sI:AC:=
 (.loop sK)
abbrev sE:List AO:=
 [(mt 42 3),o1 43 (.bin .gtr (.t 42) (ci 65536)),
  (mt 44 43),
  (o4 45 44 (.fa 1 (.t 1))),
  (o4 46 44 (.ld 1 false (.t 45))),
  (o4 47 44 (.bin .lss (.t 46) (ci 0))),o1 48 (.pick (.t 44) (.c (.b true)) (.t 47)),
  (mt 49 48),
  (o4 50 49 (.fa 1 (.t 1))),
  (o4 51 49 (.ld 1 false (.t 50))),
  (o4 52 49 (.bin .gtr (.t 51) (ci 16))),o1 53 (.pick (.t 49) (.c (.b true)) (.t 52))]
abbrev sD:List AO:=
 [o1 2 (.mv (ci 2))]
abbrev sC:List AO:=
 [o1 54 (.fa 2 (.t 1)),o1 55 (.ld 1 false (.t 54)),o1 56 (.len (.t 55)),o1 57 (.bin .gtr (.t 56) (ci 1024))]
abbrev sB:List AO:=
 [o1 2 (.mv (ci 6))]
abbrev sA:List AO:=
 [o1 5 (.mv (ci 0))]
abbrev sy:List AO:=
 [(mt 58 5),o1 59 (.fa 2 (.t 1)),o1 60 (.ld 1 false (.t 59)),o1 61 (.len (.t 60)),o1 62 (.bin .lss (.t 58) (.t 61))]
abbrev sw:List AO:=
 [o1 65 (.fa 2 (.t 1)),o1 66 (.ld 1 false (.t 65)),
  (mt 67 5),o1 68 (.ia 2 (.t 66) (.t 67)),o1 69 (.ld 2 true (.t 68)),
  (o2 70 51 [.t 69]),
  (mt 6 70)]
abbrev su:List AO:=
 [(mt 71 6),o1 72 (.bin .neq (.t 71) (ci 0))]
abbrev ss:List AO:=
 [(mt 73 6),
  (mt 2 73)]
abbrev sH:AC:=
 (.seq (.reg sw) (.seq (.reg su) (.cond (.t 72) (.seq (.reg ss) .ret) .skip)))
abbrev sr:List AO:=
 [(mt 63 5),o1 64 (.bin .add (.t 63) (ci 1)),
  (mt 5 64)]
abbrev sJ:AC:=
 (.seq (.seq (.reg sy) (.cond (.t 62) .skip (.exit 2))) (.seq (.block 3 sH) (.reg sr)))
abbrev sG:AC:=
 (.loop sJ)
abbrev sq:List AO:=
 [o1 2 (.mv (ci 0))]
abbrev DX:AF:=⟨74,(.seq (.reg DV) (.seq (.seq (.reg DU) (.cond (.t 10) (.seq (.reg DT) .ret) .skip)) (.seq (.reg DS) (.seq (.seq (.reg DR) (.block 0 sI)) (.seq (.seq (.reg sE) (.cond (.t 53) (.seq (.reg sD) .ret) .skip)) (.seq (.seq (.reg sC) (.cond (.t 57) (.seq (.reg sB) .ret) .skip)) (.seq (.seq (.reg sA) (.block 2 sG)) (.seq (.reg sq) .ret)))))))),[.mv (.t 2)]⟩
theorem qE:ae Tryz.prog (aa Tryz.prog 25) 25=some DX:=by kernel_rfl
/-! compactorref21.sum-/
abbrev DJ:List AO:=
 [o1 4 (.mv (ci 0))]
abbrev DI:List AO:=
 [(mt 5 0),o1 6 (.bin .lss (.t 5) (ci 0)),
  (mt 7 6),
  (o4 8 7 (.mv (.t 0))),
  (o4 9 7 (.bin .gtr (.t 8) (ci 281474976710656))),o1 10 (.pick (.t 7) (.c (.b true)) (.t 9)),
  (mt 11 10),
  (o4 12 11 (.mv (.t 1))),
  (o4 13 11 (.bin .lss (.t 12) (ci 0))),o1 14 (.pick (.t 11) (.c (.b true)) (.t 13)),
  (mt 15 14),
  (o4 16 15 (.mv (.t 1))),
  (o4 17 15 (.bin .gtr (.t 16) (ci 281474976710656))),o1 18 (.pick (.t 15) (.c (.b true)) (.t 17))]
abbrev DH:List AO:=
 [o1 4 (.mv (ci 281474976710656))]
abbrev DG:List AO:=
 [(mt 19 0),
  (mt 20 1),o1 21 (.bin .add (.t 19) (.t 20)),⟨some 22,none,.mo (.mi (.t 21) (ci 281474976710656))⟩,
  (mt 4 22)]
abbrev DL:AF:=⟨23,(.seq (.reg DJ) (.seq (.seq (.reg DI) (.cond (.t 18) (.seq (.reg DH) .ret) .skip)) (.seq (.reg DG) .ret))),[.mv (.t 4)]⟩
theorem DK:ae Tryz.prog (aa Tryz.prog 27) 27=some DL:=by kernel_rfl
/-! compactorref21.formed-/
abbrev DD:List AO:=
 [o1 1 (.bx 34 0 (.t 0)),o1 2 (.mv (.c (.b false)))]
abbrev DC:List AO:=
 [o1 3 (.fa 0 (.t 1)),o1 4 (.ld 1 false (.t 3)),o1 5 (.bin .geq (.t 4) (ci 0)),
  (mt 6 5),
  (o5 7 6 (.fa 0 (.t 1))),
  (o5 8 6 (.ld 1 false (.t 7))),
  (o5 9 6 (.bin .leq (.t 8) (ci 281474976710656))),o1 10 (.pick (.t 6) (.t 9) (.c (.b false))),
  (mt 11 10),
  (o5 12 11 (.fa 1 (.t 1))),
  (o5 13 11 (.ld 1 false (.t 12))),
  (o5 14 11 (.bin .geq (.t 13) (ci 0))),o1 15 (.pick (.t 11) (.t 14) (.c (.b false))),
  (mt 16 15),
  (o5 17 16 (.fa 1 (.t 1))),
  (o5 18 16 (.ld 1 false (.t 17))),
  (o5 19 16 (.bin .leq (.t 18) (ci 281474976710656))),o1 20 (.pick (.t 16) (.t 19) (.c (.b false))),
  (mt 2 20)]
abbrev DF:AF:=⟨21,(.seq (.reg DD) (.seq (.reg DC) .ret)),[.mv (.t 2)]⟩
theorem DE:ae Tryz.prog (aa Tryz.prog 29) 29=some DF:=by kernel_rfl
/-! compactorref20.Few-/
abbrev Cd:List AO:=
 [o1 1 (.bx 44 0 (.t 0)),o1 2 (.mv (.c (.b false)))]
abbrev Cc:List AO:=
 [o1 3 (.mv (ci 0))]
abbrev Cb:List AO:=
 [(mt 4 3),o1 5 (.fa 3 (.t 1)),o1 6 (.ld 1 false (.t 5)),o1 7 (.len (.t 6)),o1 8 (.bin .lss (.t 4) (.t 7)),
  (mt 9 8),
  (o5 10 9 (.mv (.t 3))),
  (o5 11 9 (.bin .lss (.t 10) (ci 60))),o1 12 (.pick (.t 9) (.t 11) (.c (.b false)))]
abbrev Ca:List AO:=
 [o1 15 (.fa 3 (.t 1)),o1 16 (.ld 1 false (.t 15)),
  (mt 17 3),o1 18 (.ia 3 (.t 16) (.t 17)),o1 19 (.fa 2 (.t 18)),o1 20 (.ld 1 false (.t 19)),o1 21 (.len (.t 20)),o1 22 (.bin .gtr (.t 21) (ci 40))]
abbrev B9:List AO:=
 [o1 2 (.mv (.c (.b false)))]
abbrev Cg:AC:=
 (.seq (.reg Ca) (.cond (.t 22) (.seq (.reg B9) .ret) .skip))
abbrev B8:List AO:=
 [(mt 13 3),o1 14 (.bin .add (.t 13) (ci 1)),
  (mt 3 14)]
abbrev Ch:AC:=
 (.seq (.seq (.reg Cb) (.cond (.t 12) .skip (.exit 0))) (.seq (.block 1 Cg) (.reg B8)))
abbrev Cf:AC:=
 (.loop Ch)
abbrev B7:List AO:=
 [o1 23 (.fa 3 (.t 1)),o1 24 (.ld 1 false (.t 23)),o1 25 (.len (.t 24)),o1 26 (.bin .leq (.t 25) (ci 60)),
  (mt 2 26)]
abbrev r7:AF:=⟨27,(.seq (.reg Cd) (.seq (.seq (.reg Cc) (.block 0 Cf)) (.seq (.reg B7) .ret))),[.mv (.t 2)]⟩
theorem Ce:ae Tryz.prog (aa Tryz.prog 30) 30=some r7:=by kernel_rfl
/-! compactorref21.check-/
abbrev B4:List AO:=
 [o1 2 (.bx 25 0 (.t 0)),o1 3 (.bx 44 0 (.t 1)),o1 4 (.mv (.c .sl0)),o1 5 (.mv (ci 0))]
abbrev B3:List AO:=
 [o1 16 (.ld 3 true (.t 2)),
  (o2 17 55 [.t 16]),
  (mt 15 17),o1 18 (.ext 0 (.t 15)),o1 19 (.ext 1 (.t 15)),
  (mt 6 18),
  (mt 7 19)]
abbrev B2:List AO:=
 [(mt 20 7),o1 21 (.bin .neq (.t 20) (ci 0))]
abbrev B1:List AO:=
 [(mt 22 7),o1 4 (.mv (.c .sl0)),
  (mt 5 22)]
abbrev B0:List AO:=
 [o1 24 (.fa 2 (.t 2)),o1 25 (.ld 1 false (.t 24)),
  (o2 26 56 [.t 25]),
  (mt 23 26),o1 27 (.ext 0 (.t 23)),o1 28 (.ext 1 (.t 23)),
  (mt 8 27),
  (mt 9 28)]
abbrev BZ:List AO:=
 [(mt 29 8),o1 30 (.len (.t 29)),o1 31 (.fa 3 (.t 3)),o1 32 (.ld 1 false (.t 31)),o1 33 (.len (.t 32)),o1 34 (.bin .neq (.t 30) (.t 33))]
abbrev BX:List AO:=
 [o1 4 (.mv (.c .sl0)),o1 5 (.mv (ci 23))]
abbrev BW:List AO:=
 [o1 10 (.mv (ci 0))]
abbrev BV:List AO:=
 [(mt 35 10),
  (mt 36 8),o1 37 (.len (.t 36)),o1 38 (.bin .lss (.t 35) (.t 37))]
abbrev B6:List (Nat×AO):=
 [(2,(o1 41 (.fa 3 (.t 3)))),
  (2,(mt 43 10)),
  (2,(mt 47 8)),
  (2,(mt 48 10)),(2,(o1 49 (.ia 1 (.t 47) (.t 48)))),(1,(o1 42 (.ld 1 false (.t 41)))),(2,(o1 44 (.ia 3 (.t 42) (.t 43)))),(2,(o1 45 (.fa 0 (.t 44)))),(1,(o1 46 (.ld 1 false (.t 45)))),(1,(o1 50 (.ld 1 false (.t 49)))),(2,(o1 51 (.bin .neq (.t 46) (.t 50))))]
abbrev pk:List AO:=
 [o1 4 (.mv (.c .sl0)),o1 5 (.mv (ci 23))]
abbrev pp:AC:=
 (.seq (.mix B6) (.cond (.t 51) (.seq (.reg pk) .ret) .skip))
abbrev pj:List AO:=
 [(mt 39 10),o1 40 (.bin .add (.t 39) (ci 1)),
  (mt 10 40)]
abbrev pr:AC:=
 (.seq (.seq (.reg BV) (.cond (.t 38) .skip (.exit 0))) (.seq (.block 1 pp) (.reg pj)))
abbrev po:AC:=
 (.loop pr)
abbrev ph:List AO:=
 [o1 11 (.mv (ci 0))]
abbrev pg:List AO:=
 [(mt 52 11),
  (mt 53 8),o1 54 (.len (.t 53)),o1 55 (.bin .lss (.t 52) (.t 54))]
abbrev pe:List AO:=
 [o1 58 (.fa 3 (.t 3)),o1 59 (.ld 1 false (.t 58)),
  (mt 60 11),o1 61 (.ia 3 (.t 59) (.t 60)),o1 62 (.fa 1 (.t 61)),o1 63 (.ld 1 false (.t 62)),o1 64 (.bin .lss (.t 63) (ci 0)),
  (mt 65 64),
  (o4 66 65 (.fa 3 (.t 3))),
  (o4 67 65 (.ld 1 false (.t 66))),
  (o4 68 65 (.mv (.t 11))),
  (o4 69 65 (.ia 3 (.t 67) (.t 68))),
  (o4 70 65 (.fa 1 (.t 69))),
  (o4 71 65 (.ld 1 false (.t 70))),
  (o4 72 65 (.bin .gtr (.t 71) (ci 65536))),o1 73 (.pick (.t 65) (.c (.b true)) (.t 72))]
abbrev pd:List AO:=
 [o1 4 (.mv (.c .sl0)),o1 5 (.mv (ci 2))]
abbrev pn:AC:=
 (.seq (.reg pe) (.cond (.t 73) (.seq (.reg pd) .ret) .skip))
abbrev pc:List AO:=
 [(mt 56 11),o1 57 (.bin .add (.t 56) (ci 1)),
  (mt 11 57)]
abbrev pq:AC:=
 (.seq (.seq (.reg pg) (.cond (.t 55) .skip (.exit 2))) (.seq (.block 3 pn) (.reg pc)))
abbrev pm:AC:=
 (.loop pq)
abbrev pb:List AO:=
 [o1 75 (.fa 2 (.t 2)),o1 76 (.ld 1 false (.t 75)),
  (o2 77 57 [.t 76]),
  (mt 74 77),o1 78 (.ext 0 (.t 74)),o1 79 (.ext 1 (.t 74)),o1 80 (.ext 2 (.t 74)),
  (mt 12 78),
  (mt 13 79),
  (mt 14 80)]
abbrev o9:List AO:=
 [(mt 81 12),
  (mt 4 81),o1 5 (.mv (ci 0))]
abbrev r6:AF:=⟨82,(.seq (.reg B4) (.seq (.seq (.reg B3) (.seq (.reg B2) (.cond (.t 21) (.seq (.reg B1) .ret) .skip))) (.seq (.reg B0) (.seq (.seq (.reg BZ) (.cond (.t 34) (.seq (.reg BX) .ret) .skip)) (.seq (.seq (.reg BW) (.block 0 po)) (.seq (.seq (.reg ph) (.block 2 pm)) (.seq (.reg pb) (.seq (.reg o9) .ret)))))))),[.mv (.t 4),.mv (.t 5)]⟩
theorem B5:ae Tryz.prog (aa Tryz.prog 35) 35=some r6:=by kernel_rfl
/-! compactorref21.bounded-/
abbrev BS:List AO:=
 [o1 2 (.mv (ci 0)),o1 3 (.mv (ci 0))]
abbrev BQ:List AO:=
 [(mt 4 0),o1 5 (.bin .gtr (.t 4) (ci 281474976710656))]
abbrev BP:List AO:=
 [o1 2 (.mv (ci 0)),o1 3 (.mv (ci 18))]
abbrev BO:List AO:=
 [(mt 6 0),
  (mt 2 6),o1 3 (.mv (ci 0))]
abbrev rZ:AF:=⟨7,(.seq (.reg BS) (.seq (.seq (.reg BQ) (.cond (.t 5) (.seq (.reg BP) .ret) .skip)) (.seq (.reg BO) .ret))),[.mv (.t 2),.mv (.t 3)]⟩
theorem BU:ae Tryz.prog (aa Tryz.prog 36) 36=some rZ:=by kernel_rfl
/-! compactorref21.steps-/
abbrev BK:List AO:=
 [o1 3 (.bx 44 0 (.t 1)),o1 4 (.mv (ci 0))]
abbrev BJ:List AO:=
 [o1 5 (.mv (ci 0))]
abbrev BI:List AO:=
 [o1 6 (.mv (ci 0))]
abbrev BH:List AO:=
 [(mt 8 6),
  (mt 9 0),o1 10 (.len (.t 9)),o1 11 (.bin .lss (.t 8) (.t 10))]
abbrev BG:List AO:=
 [(mt 14 0),
  (mt 15 6),o1 16 (.ia 5 (.t 14) (.t 15)),o1 17 (.ld 5 true (.t 16)),o1 7 (.al 106 [.n .i64 0,.n .i64 0,.n .i64 0,.sl0,.sl0]),
  (o3 (.st 5 (.t 7) (.t 17)))]
abbrev BF:List AO:=
 [o1 18 (.fa 0 (.t 7)),o1 19 (.ld 1 false (.t 18))]
abbrev BE:List AO:=
 [o1 29 (.bin .eql (.t 19) (ci 27)),
  (mt 28 29)]
abbrev BN:List (Nat×AO):=
 [(2,(mt 30 5)),(2,(o1 31 (.bin .add (.t 30) (ci 1)))),(2,(o1 32 (.fa 3 (.t 7)))),(2,(o1 36 (.fa 4 (.t 7)))),(1,(o1 33 (.ld 1 false (.t 32)))),(1,(o1 34 (.ld 4 true (.t 3)))),(1,(o1 37 (.ld 1 false (.t 36)))),(1,(o1 38 (.ld 4 true (.t 3)))),
  (0,(o2 35 37 [.t 33,.t 34])),
  (3,(o2 39 37 [.t 37,.t 38])),(3,⟨some 40,none,.mo (.mx (.t 35) (.t 39))⟩),(2,(o1 41 (.bin .add (.t 31) (.t 40)))),
  (3,(o2 42 58 [.t 41])),
  (2,(mt 5 42))]
abbrev BD:List AO:=
 [o1 44 (.bin .eql (.t 19) (ci 29)),
  (mt 43 44)]
abbrev BM:List (Nat×AO):=
 [(2,(mt 45 5)),(2,(o1 46 (.bin .add (.t 45) (ci 1)))),(2,(o1 47 (.fa 3 (.t 7)))),(2,(o1 54 (.fa 1 (.t 7)))),(1,(o1 48 (.ld 1 false (.t 47)))),(1,(o1 49 (.ld 4 true (.t 3)))),(1,(o1 53 (.ld 4 true (.t 3)))),(1,(o1 55 (.ld 1 false (.t 54)))),
  (0,(o2 50 37 [.t 48,.t 49])),(2,(o1 51 (.bin .add (.t 50) (ci 1)))),
  (0,(o2 52 58 [.t 51])),
  (3,(o2 56 60 [.t 53,.t 55])),
  (3,(o2 57 59 [.t 52,.t 56])),(2,(o1 58 (.bin .add (.t 46) (.t 57)))),
  (3,(o2 59 58 [.t 58])),
  (2,(mt 5 59))]
abbrev oY:List AO:=
 [(mt 20 5),o1 21 (.fa 2 (.t 7)),o1 22 (.ld 1 false (.t 21)),o1 23 (.bin .add (.t 20) (.t 22)),o1 24 (.fa 1 (.t 7)),o1 25 (.ld 1 false (.t 24)),o1 26 (.bin .sub (.t 23) (.t 25)),
  (o2 27 58 [.t 26]),
  (mt 5 27)]
abbrev o7:AC:=
 (.seq (.reg BE) (.cond (.t 28) (.mix BN) (.seq (.reg BD) (.cond (.t 43) (.mix BM) (.reg oY)))))
abbrev o6:AC:=
 (.seq (.reg BG) (.seq (.reg BF) (.block 2 o7)))
abbrev oX:List AO:=
 [(mt 12 6),o1 13 (.bin .add (.t 12) (ci 1)),
  (mt 6 13)]
abbrev o8:AC:=
 (.seq (.seq (.reg BH) (.cond (.t 11) .skip (.exit 0))) (.seq (.block 1 o6) (.reg oX)))
abbrev oZ:AC:=
 (.loop o8)
abbrev oW:List AO:=
 [(mt 60 5),
  (mt 4 60)]
abbrev rY:AF:=⟨61,(.seq (.reg BK) (.seq (.reg BJ) (.seq (.seq (.reg BI) (.block 0 oZ)) (.seq (.reg oW) .ret)))),[.mv (.t 4)]⟩
theorem BL:ae Tryz.prog (aa Tryz.prog 37) 37=some rY:=by kernel_rfl
/-! cost.bounds.emits-/
abbrev Bz:List AO:=
 [o1 3 (.bx 69 0 (.t 0)),o1 6 (.mv (ci 0))]
abbrev Bx:List AO:=
 [o1 7 (.mv (ci 0))]
abbrev Bw:List AO:=
 [o1 10 (.fa 0 (.t 3)),o1 11 (.ld 1 false (.t 10)),
  (mt 12 1),
  (mt 13 2),o1 14 (.sl 2 (.t 11) (some (.t 12)) (some (.t 13))),o1 15 (.len (.t 14)),o1 16 (.mv (ci 0))]
abbrev Bv:List AO:=
 [o1 17 (.bin .lss (.t 16) (.t 15))]
abbrev Bu:List AO:=
 [o1 18 (.ia 2 (.t 14) (.t 16)),o1 19 (.ld 2 true (.t 18)),o1 9 (.al 82 [.n .i64 0,.n .u32 0]),
  (o3 (.st 2 (.t 9) (.t 19)))]
abbrev Bt:List AO:=
 [o1 20 (.fa 0 (.t 9)),o1 21 (.ld 1 false (.t 20)),o1 22 (.bin .eql (.t 21) (ci 34))]
abbrev Bs:List AO:=
 [(mt 23 7),o1 24 (.bin .add (.t 23) (ci 1)),
  (mt 7 24)]
abbrev BB:AC:=
 (.seq (.reg Bu) (.seq (.reg Bt) (.cond (.t 22) (.reg Bs) .skip)))
abbrev Br:List AO:=
 [o1 25 (.bin .add (.t 16) (ci 1)),
  (mt 16 25)]
abbrev BC:AC:=
 (.seq (.reg Bv) (.seq (.cond (.t 17) .skip (.exit 0)) (.seq (.block 1 BB) (.reg Br))))
abbrev oV:AC:=
 (.loop BC)
abbrev oU:List AO:=
 [(mt 26 7),
  (mt 6 26)]
abbrev rX:AF:=⟨27,(.seq (.reg Bz) (.seq (.reg Bx) (.seq (.seq (.reg Bw) (.block 0 oV)) (.seq (.reg oU) .ret)))),[.mv (.t 6)]⟩
theorem BA:ae Tryz.prog (aa Tryz.prog 38) 38=some rX:=by kernel_rfl
/-! compactorref21.emits-/
abbrev Bn:List AO:=
 [o1 5 (.bx 44 0 (.t 2)),o1 6 (.mv (ci 0))]
abbrev Bm:List AO:=
 [o1 7 (.mv (ci 0))]
abbrev Bl:List AO:=
 [o1 8 (.mv (ci 0))]
abbrev Bk:List AO:=
 [(mt 11 8),
  (mt 12 0),o1 13 (.len (.t 12)),o1 14 (.bin .lss (.t 11) (.t 13))]
abbrev Bj:List AO:=
 [(mt 17 0),
  (mt 18 8),o1 19 (.ia 5 (.t 17) (.t 18)),o1 20 (.ld 5 true (.t 19)),o1 9 (.al 106 [.n .i64 0,.n .i64 0,.n .i64 0,.sl0,.sl0]),
  (o3 (.st 5 (.t 9) (.t 20)))]
abbrev Bi:List AO:=
 [o1 21 (.fa 0 (.t 9)),o1 22 (.ld 1 false (.t 21))]
abbrev Bh:List AO:=
 [o1 41 (.bin .eql (.t 22) (ci 27)),
  (mt 40 41)]
abbrev Bq:List (Nat×AO):=
 [(2,(mt 42 7)),(2,(o1 43 (.fa 3 (.t 9)))),
  (2,(mt 45 1)),(2,(o1 48 (.fa 4 (.t 9)))),
  (2,(mt 50 1)),(1,(o1 44 (.ld 1 false (.t 43)))),(1,(o1 46 (.ld 4 true (.t 5)))),(1,(o1 49 (.ld 1 false (.t 48)))),(1,(o1 51 (.ld 4 true (.t 5)))),
  (0,(o2 47 39 [.t 44,.t 45,.t 46])),
  (3,(o2 52 39 [.t 49,.t 50,.t 51])),(3,⟨some 53,none,.mo (.mx (.t 47) (.t 52))⟩),(2,(o1 54 (.bin .add (.t 42) (.t 53)))),
  (3,(o2 55 58 [.t 54])),
  (2,(mt 7 55))]
abbrev Bg:List AO:=
 [o1 57 (.bin .eql (.t 22) (ci 29)),
  (mt 56 57)]
abbrev Bp:List (Nat×AO):=
 [(2,(mt 58 7)),(2,(o1 59 (.fa 3 (.t 9)))),
  (2,(mt 61 1)),(2,(o1 65 (.fa 1 (.t 9)))),(1,(o1 60 (.ld 1 false (.t 59)))),(1,(o1 62 (.ld 4 true (.t 5)))),(1,(o1 64 (.ld 4 true (.t 5)))),(1,(o1 66 (.ld 1 false (.t 65)))),
  (0,(o2 63 39 [.t 60,.t 61,.t 62])),
  (3,(o2 67 60 [.t 64,.t 66])),
  (3,(o2 68 59 [.t 63,.t 67])),(2,(o1 69 (.bin .add (.t 58) (.t 68)))),
  (3,(o2 70 58 [.t 69])),
  (2,(mt 7 70))]
abbrev oK:List AO:=
 [o1 23 (.fa 1 (.t 9)),o1 24 (.ld 1 false (.t 23)),
  (mt 10 24)]
abbrev oJ:List AO:=
 [(mt 25 10),o1 26 (.fa 2 (.t 9)),o1 27 (.ld 1 false (.t 26)),o1 28 (.bin .lss (.t 25) (.t 27))]
abbrev oI:List AO:=
 [(mt 31 1),
  (mt 32 10),o1 33 (.ia 2 (.t 31) (.t 32)),o1 34 (.fa 0 (.t 33)),o1 35 (.ld 1 false (.t 34)),o1 36 (.bin .eql (.t 35) (ci 34))]
abbrev oH:List AO:=
 [(mt 37 7),o1 38 (.bin .add (.t 37) (ci 1)),
  (o2 39 58 [.t 38]),
  (mt 7 39)]
abbrev oQ:AC:=
 (.seq (.reg oI) (.cond (.t 36) (.reg oH) .skip))
abbrev oG:List AO:=
 [(mt 29 10),o1 30 (.bin .add (.t 29) (ci 1)),
  (mt 10 30)]
abbrev oT:AC:=
 (.seq (.seq (.reg oJ) (.cond (.t 28) .skip (.exit 3))) (.seq (.block 4 oQ) (.reg oG)))
abbrev oP:AC:=
 (.loop oT)
abbrev oO:AC:=
 (.seq (.reg Bh) (.cond (.t 40) (.mix Bq) (.seq (.reg Bg) (.cond (.t 56) (.mix Bp) (.seq (.reg oK) (.block 3 oP))))))
abbrev oM:AC:=
 (.seq (.reg Bj) (.seq (.reg Bi) (.block 2 oO)))
abbrev oE:List AO:=
 [(mt 15 8),o1 16 (.bin .add (.t 15) (ci 1)),
  (mt 8 16)]
abbrev oS:AC:=
 (.seq (.seq (.reg Bk) (.cond (.t 14) .skip (.exit 0))) (.seq (.block 1 oM) (.reg oE)))
abbrev oL:AC:=
 (.loop oS)
abbrev oD:List AO:=
 [(mt 71 7),
  (mt 6 71)]
abbrev rV:AF:=⟨72,(.seq (.reg Bn) (.seq (.reg Bm) (.seq (.seq (.reg Bl) (.block 0 oL)) (.seq (.reg oD) .ret)))),[.mv (.t 6)]⟩
theorem Bo:ae Tryz.prog (aa Tryz.prog 39) 39=some rV:=by kernel_rfl
/-! compactorref15.Check-/
abbrev Bf:List AO:=
 [o1 1 (.bx 82 0 (.t 0)),o1 2 (.mv (ci 0))]
abbrev Be:List AO:=
 [o1 4 (.fa 0 (.t 1)),o1 5 (.ld 1 false (.t 4)),o1 6 (.bin .lss (.t 5) (ci 0)),
  (mt 7 6),
  (o4 8 7 (.fa 0 (.t 1))),
  (o4 9 7 (.ld 1 false (.t 8))),
  (o4 10 7 (.bin .geq (.t 9) (ci 36))),o1 11 (.pick (.t 7) (.c (.b true)) (.t 10))]
abbrev Bd:List AO:=
 [o1 2 (.mv (ci 1))]
abbrev Bc:List AO:=
 [o1 3 (.mv (ci 0))]
abbrev Bb:List AO:=
 [o1 12 (.fa 0 (.t 1)),o1 13 (.ld 1 false (.t 12))]
abbrev Ba:List AO:=
 [o1 15 (.bin .eql (.t 13) (ci 0)),
  (mt 14 15)]
abbrev A9:List AO:=
 [o1 2 (.mv (ci 0))]
abbrev A8:List AO:=
 [o1 17 (.bin .eql (.t 13) (ci 1)),
  (mt 16 17)]
abbrev A7:List AO:=
 [o1 18 (.bin .eql (.t 13) (ci 2)),
  (mt 16 18)]
abbrev A6:List AO:=
 [o1 3 (.mv (ci 15))]
abbrev oB:List AO:=
 [o1 20 (.bin .eql (.t 13) (ci 3)),
  (mt 19 20)]
abbrev oA:List AO:=
 [o1 21 (.bin .eql (.t 13) (ci 4)),
  (mt 19 21)]
abbrev oz:List AO:=
 [o1 3 (.mv (ci 7))]
abbrev oy:List AO:=
 [o1 23 (.bin .eql (.t 13) (ci 35)),
  (mt 22 23)]
abbrev ox:List AO:=
 [o1 3 (.mv (ci 15))]
abbrev oC:AC:=
 (.seq (.reg Ba) (.cond (.t 14) (.seq (.reg A9) .ret) (.seq (.seq (.reg A8) (.cond (.t 16) .skip (.reg A7))) (.cond (.t 16) (.reg A6) (.seq (.seq (.reg oB) (.cond (.t 19) .skip (.reg oA))) (.cond (.t 19) (.reg oz) (.seq (.reg oy) (.cond (.t 22) (.reg ox) .skip))))))))
abbrev ow:List AO:=
 [o1 24 (.fa 1 (.t 1)),o1 25 (.ld 1 false (.t 24)),o1 26 (.cvi .i64 (.t 25)),
  (mt 27 3),o1 28 (.bin .gtr (.t 26) (.t 27))]
abbrev ov:List AO:=
 [o1 2 (.mv (ci 2))]
abbrev ou:List AO:=
 [o1 2 (.mv (ci 0))]
abbrev rU:AF:=⟨29,(.seq (.reg Bf) (.seq (.seq (.reg Be) (.cond (.t 11) (.seq (.reg Bd) .ret) .skip)) (.seq (.reg Bc) (.seq (.seq (.reg Bb) (.block 0 oC)) (.seq (.seq (.reg ow) (.cond (.t 28) (.seq (.reg ov) .ret) .skip)) (.seq (.reg ou) .ret)))))),[.mv (.t 2)]⟩
theorem kp:ae Tryz.prog (aa Tryz.prog 51) 51=some rU:=by kernel_rfl
/-! compactorref20.Check-/
abbrev A4:List AO:=
 [o1 1 (.bx 25 0 (.t 0)),o1 2 (.mv (ci 0)),o1 3 (.mv (ci 0))]
abbrev A3:List AO:=
 [o1 10 (.ld 3 true (.t 1)),
  (o2 11 25 [.t 10]),
  (mt 4 11)]
abbrev A2:List AO:=
 [(mt 12 4),o1 13 (.bin .neq (.t 12) (ci 0))]
abbrev A1:List AO:=
 [(mt 14 4),o1 2 (.mv (ci 0)),
  (mt 3 14)]
abbrev A0:List AO:=
 [o1 16 (.fa 2 (.t 1)),o1 17 (.ld 1 false (.t 16)),
  (o2 18 57 [.t 17]),
  (mt 15 18),o1 19 (.ext 0 (.t 15)),o1 20 (.ext 1 (.t 15)),o1 21 (.ext 2 (.t 15)),
  (mt 5 19),
  (mt 6 20),
  (mt 7 21)]
abbrev AZ:List AO:=
 [(mt 22 7),o1 23 (.bin .neq (.t 22) (ci 0))]
abbrev AY:List AO:=
 [(mt 24 6),
  (mt 25 7),
  (mt 2 24),
  (mt 3 25)]
abbrev AW:List AO:=
 [o1 8 (.mv (ci 0))]
abbrev AU:List AO:=
 [(mt 26 8),o1 27 (.fa 2 (.t 1)),o1 28 (.ld 1 false (.t 27)),o1 29 (.len (.t 28)),o1 30 (.bin .lss (.t 26) (.t 29))]
abbrev AR:List AO:=
 [o1 33 (.fa 2 (.t 1)),o1 34 (.ld 1 false (.t 33)),
  (mt 35 8),o1 36 (.ia 2 (.t 34) (.t 35)),o1 37 (.ld 2 true (.t 36)),o1 9 (.al 82 [.n .i64 0,.n .u32 0]),
  (o3 (.st 2 (.t 9) (.t 37)))]
abbrev om:List AO:=
 [o1 38 (.fa 0 (.t 9)),o1 39 (.ld 1 false (.t 38)),o1 40 (.bin .eql (.t 39) (ci 1)),
  (mt 41 40),
  (o4 42 41 (.fa 0 (.t 9))),
  (o4 43 41 (.ld 1 false (.t 42))),
  (o4 44 41 (.bin .eql (.t 43) (ci 2))),o1 45 (.pick (.t 41) (.c (.b true)) (.t 44)),
  (mt 46 45),
  (o5 47 46 (.fa 1 (.t 9))),
  (o5 48 46 (.ld 1 false (.t 47))),
  (o5 49 46 (.cvi .i64 (.t 48))),
  (o5 50 46 (.fa 1 (.t 1))),
  (o5 51 46 (.ld 1 false (.t 50))),
  (o5 52 46 (.bin .geq (.t 49) (.t 51))),o1 53 (.pick (.t 46) (.t 52) (.c (.b false))),
  (mt 54 53),
  (o4 55 54 (.fa 0 (.t 9))),
  (o4 56 54 (.ld 1 false (.t 55))),
  (o4 57 54 (.bin .eql (.t 56) (ci 3))),
  (o4 58 54 (.mv (.t 57))),
  (o4 59 58 (.fa 0 (.t 9))),
  (o4 60 58 (.ld 1 false (.t 59))),
  (o4 61 58 (.bin .eql (.t 60) (ci 4))),
  (o4 62 54 (.pick (.t 58) (.c (.b true)) (.t 61))),
  (o4 63 54 (.mv (.t 62))),
  (o5 64 63 (.fa 1 (.t 9))),
  (o5 65 63 (.ld 1 false (.t 64))),
  (o5 66 63 (.cvi .i64 (.t 65))),
  (o5 67 63 (.fa 0 (.t 1))),
  (o5 68 63 (.ld 1 false (.t 67))),
  (o5 69 63 (.len (.t 68))),
  (o5 70 63 (.bin .geq (.t 66) (.t 69))),
  (o4 71 54 (.pick (.t 63) (.t 70) (.c (.b false)))),o1 72 (.pick (.t 54) (.c (.b true)) (.t 71))]
abbrev ol:List AO:=
 [(mt 73 8),
  (mt 2 73),o1 3 (.mv (ci 2))]
abbrev oq:AC:=
 (.seq (.reg AR) (.seq (.reg om) (.cond (.t 72) (.seq (.reg ol) .ret) .skip)))
abbrev oh:List AO:=
 [(mt 31 8),o1 32 (.bin .add (.t 31) (ci 1)),
  (mt 8 32)]
abbrev ot:AC:=
 (.seq (.seq (.reg AU) (.cond (.t 30) .skip (.exit 0))) (.seq (.block 1 oq) (.reg oh)))
abbrev oo:AC:=
 (.loop ot)
abbrev og:List AO:=
 [o1 2 (.mv (ci 0)),o1 3 (.mv (ci 0))]
abbrev rT:AF:=⟨74,(.seq (.reg A4) (.seq (.seq (.reg A3) (.seq (.reg A2) (.cond (.t 13) (.seq (.reg A1) .ret) .skip))) (.seq (.seq (.reg A0) (.seq (.reg AZ) (.cond (.t 23) (.seq (.reg AY) .ret) .skip))) (.seq (.seq (.reg AW) (.block 0 oo)) (.seq (.reg og) .ret))))),[.mv (.t 2),.mv (.t 3)]⟩
theorem A5:ae Tryz.prog (aa Tryz.prog 55) 55=some rT:=by kernel_rfl
/-! compactorref18.Loops-/
abbrev AM:List AO:=
 [o1 2 (.mv (.c .sl0)),o1 3 (.mv (ci 0))]
abbrev AL:List AO:=
 [(mt 10 0),
  (o2 11 83 [.t 10]),
  (mt 9 11),o1 12 (.ext 0 (.t 9)),o1 13 (.ext 1 (.t 9)),o1 14 (.ext 2 (.t 9)),
  (mt 4 12),
  (mt 5 13),
  (mt 6 14)]
abbrev AJ:List AO:=
 [(mt 15 6),o1 16 (.bin .neq (.t 15) (ci 0))]
abbrev AG:List AO:=
 [(mt 17 6),o1 2 (.mv (.c .sl0)),
  (mt 3 17)]
abbrev AD:List AO:=
 [o1 7 (.mv (.c .sl0))]
abbrev AA:List AO:=
 [o1 8 (.mv (ci 0))]
abbrev Az:List AO:=
 [(mt 18 8),
  (mt 19 0),o1 20 (.len (.t 19)),o1 21 (.bin .lss (.t 18) (.t 20))]
abbrev Ay:List AO:=
 [(mt 24 0),
  (mt 25 8),o1 26 (.ia 2 (.t 24) (.t 25)),o1 27 (.fa 0 (.t 26)),o1 28 (.ld 1 false (.t 27)),o1 29 (.bin .eql (.t 28) (ci 29))]
abbrev Ax:List AO:=
 [(mt 30 7),
  (mt 31 8),o1 32 (.bs 3 1 1 [.n .i64 0] [(0,1,(.t 31))]),o1 33 (.app 3 1 8 (.t 30) (.t 32)),
  (mt 7 33)]
abbrev AQ:AC:=
 (.seq (.reg Ay) (.cond (.t 29) (.reg Ax) .skip))
abbrev n9:List AO:=
 [(mt 22 8),o1 23 (.bin .add (.t 22) (ci 1)),
  (mt 8 23)]
abbrev oe:AC:=
 (.seq (.seq (.reg Az) (.cond (.t 21) .skip (.exit 0))) (.seq (.block 1 AQ) (.reg n9)))
abbrev oa:AC:=
 (.loop oe)
abbrev n8:List AO:=
 [(mt 34 7),
  (mt 2 34),o1 3 (.mv (ci 0))]
abbrev rS:AF:=⟨35,(.seq (.reg AM) (.seq (.seq (.reg AL) (.seq (.reg AJ) (.cond (.t 16) (.seq (.reg AG) .ret) .skip))) (.seq (.reg AD) (.seq (.seq (.reg AA) (.block 0 oa)) (.seq (.reg n8) .ret))))),[.mv (.t 2),.mv (.t 3)]⟩
theorem AN:ae Tryz.prog (aa Tryz.prog 56) 56=some rS:=by kernel_rfl
/-! compactorref18.Parse-/
abbrev Av:List AO:=
 [o1 2 (.mv (.c .sl0)),o1 3 (.mv (ci 0)),o1 4 (.mv (ci 0))]
abbrev Au:List AO:=
 [(mt 9 0),
  (o2 10 83 [.t 9]),
  (mt 8 10),o1 11 (.ext 0 (.t 8)),o1 12 (.ext 1 (.t 8)),o1 13 (.ext 2 (.t 8)),
  (mt 5 11),
  (mt 6 12),
  (mt 7 13)]
abbrev Ar:List AO:=
 [(mt 14 7),o1 15 (.bin .neq (.t 14) (ci 0))]
abbrev Aq:List AO:=
 [(mt 16 6),
  (mt 17 7),o1 2 (.mv (.c .sl0)),
  (mt 3 16),
  (mt 4 17)]
abbrev Ap:List AO:=
 [(mt 18 0),
  (mt 19 5),
  (mt 20 0),o1 21 (.len (.t 20)),
  (o2 22 84 [.t 18,.t 19,(ci 0),.t 21]),
  (mt 2 22),o1 3 (.mv (ci 0)),o1 4 (.mv (ci 0))]
abbrev rR:AF:=⟨23,(.seq (.reg Av) (.seq (.reg Au) (.seq (.seq (.reg Ar) (.cond (.t 15) (.seq (.reg Aq) .ret) .skip)) (.seq (.reg Ap) .ret)))),[.mv (.t 2),.mv (.t 3),.mv (.t 4)]⟩
theorem Aw:ae Tryz.prog (aa Tryz.prog 57) 57=some rR:=by kernel_rfl
/-! compactorref21.few-/
abbrev An:List AO:=
 [o1 2 (.mv (ci 0))]
abbrev Am:List AO:=
 [(mt 3 0),⟨some 4,none,.mo (.mi (.t 3) (ci 281474976710657))⟩,
  (mt 2 4)]
abbrev rQ:AF:=⟨5,(.seq (.reg An) (.seq (.reg Am) .ret)),[.mv (.t 2)]⟩
theorem Ao:ae Tryz.prog (aa Tryz.prog 58) 58=some rQ:=by kernel_rfl
/-! compactorref21.times-/
abbrev Ak:List AO:=
 [o1 4 (.mv (ci 0))]
abbrev Aj:List AO:=
 [(mt 5 1),o1 6 (.bin .gtr (.t 5) (ci 0)),
  (mt 7 6),
  (o5 8 7 (.mv (.t 0))),
  (o5 9 7 (.mv (.t 1))),
  (o5 10 7 (.bin .quo (ci 281474976710657) (.t 9))),
  (o5 11 7 (.bin .gtr (.t 8) (.t 10))),o1 12 (.pick (.t 7) (.t 11) (.c (.b false)))]
abbrev Ai:List AO:=
 [o1 4 (.mv (ci 281474976710657))]
abbrev Ah:List AO:=
 [(mt 13 0),
  (mt 14 1),o1 15 (.bin .mul (.t 13) (.t 14)),
  (o2 16 58 [.t 15]),
  (mt 4 16)]
abbrev rP:AF:=⟨17,(.seq (.reg Ak) (.seq (.seq (.reg Aj) (.cond (.t 12) (.seq (.reg Ai) .ret) .skip)) (.seq (.reg Ah) .ret))),[.mv (.t 4)]⟩
theorem Al:ae Tryz.prog (aa Tryz.prog 59) 59=some rP:=by kernel_rfl
/-! compactorref21.most-/
abbrev Ac:List AO:=
 [o1 2 (.bx 44 0 (.t 0)),o1 4 (.mv (ci 0))]
abbrev Ab:List AO:=
 [o1 5 (.mv (ci 0))]
abbrev Aa:List AO:=
 [(mt 6 5),o1 7 (.fa 3 (.t 2)),o1 8 (.ld 1 false (.t 7)),o1 9 (.len (.t 8)),o1 10 (.bin .lss (.t 6) (.t 9))]
abbrev z9:List AO:=
 [o1 13 (.fa 3 (.t 2)),o1 14 (.ld 1 false (.t 13)),
  (mt 15 5),o1 16 (.ia 3 (.t 14) (.t 15)),o1 17 (.fa 0 (.t 16)),o1 18 (.ld 1 false (.t 17)),
  (mt 19 1),o1 20 (.bin .eql (.t 18) (.t 19))]
abbrev z8:List AO:=
 [o1 21 (.fa 3 (.t 2)),o1 22 (.ld 1 false (.t 21)),
  (mt 23 5),o1 24 (.ia 3 (.t 22) (.t 23)),o1 25 (.fa 1 (.t 24)),o1 26 (.ld 1 false (.t 25)),
  (mt 4 26)]
abbrev Af:AC:=
 (.seq (.reg z9) (.cond (.t 20) (.seq (.reg z8) .ret) .skip))
abbrev z7:List AO:=
 [(mt 11 5),o1 12 (.bin .add (.t 11) (ci 1)),
  (mt 5 12)]
abbrev Ag:AC:=
 (.seq (.seq (.reg Aa) (.cond (.t 10) .skip (.exit 0))) (.seq (.block 1 Af) (.reg z7)))
abbrev Ae:AC:=
 (.loop Ag)
abbrev z6:List AO:=
 [o1 4 (.mv (ci 0))]
abbrev rO:AF:=⟨27,(.seq (.reg Ac) (.seq (.seq (.reg Ab) (.block 0 Ae)) (.seq (.reg z6) .ret))),[.mv (.t 4)]⟩
theorem Ad:ae Tryz.prog (aa Tryz.prog 60) 60=some rO:=by kernel_rfl
/-! verifier.widening$1-/
abbrev z4:List AO:=
 [o1 6 (.mv (.c .sl0)),o1 7 (.mv (ci 0))]
abbrev z3:List AO:=
 [(mt 8 2),
  (mt 9 1),
  (mt 6 8),
  (mt 7 9)]
abbrev rN:AF:=⟨10,(.seq (.reg z4) (.seq (.reg z3) .ret)),[.mv (.t 6),.mv (.t 7)]⟩
theorem z5:ae Tryz.prog (aa Tryz.prog 67) 67=some rN:=by kernel_rfl
/-! compactorref18.partners-/
abbrev zY:List AO:=
 [o1 2 (.mv (.c .sl0)),o1 3 (.mv (ci 0)),o1 4 (.mv (ci 0))]
abbrev zX:List AO:=
 [(mt 10 0),o1 11 (.len (.t 10)),o1 12 (.bin .gtr (.t 11) (ci 1024))]
abbrev zW:List AO:=
 [o1 2 (.mv (.c .sl0)),o1 3 (.mv (ci 0)),o1 4 (.mv (ci 6))]
abbrev zV:List AO:=
 [(mt 13 0),o1 14 (.len (.t 13)),o1 15 (.ms 3 1 8 [.n .i64 0] (.t 14) (.t 14)),
  (mt 5 15)]
abbrev zU:List AO:=
 [o1 6 (.mv (.c .sl0)),o1 7 (.mv (.c .sl0))]
abbrev zT:List AO:=
 [o1 8 (.mv (ci 0))]
abbrev zS:List AO:=
 [(mt 16 8),
  (mt 17 0),o1 18 (.len (.t 17)),o1 19 (.bin .lss (.t 16) (.t 18))]
abbrev zR:List AO:=
 [(mt 22 5),
  (mt 23 8),o1 24 (.ia 1 (.t 22) (.t 23)),
  (o3 (.st 1 (.t 24) (.c (.n .i64 (-1)))))]
abbrev zQ:List AO:=
 [(mt 25 6),o1 26 (.len (.t 25)),
  (mt 9 26)]
abbrev zP:List AO:=
 [(mt 27 0),
  (mt 28 8),o1 29 (.ia 2 (.t 27) (.t 28)),o1 30 (.fa 0 (.t 29)),o1 31 (.ld 1 false (.t 30))]
abbrev nZ:List AO:=
 [o1 33 (.bin .eql (.t 31) (ci 27)),
  (mt 32 33)]
abbrev nY:List AO:=
 [o1 34 (.bin .eql (.t 31) (ci 29)),
  (mt 32 34)]
abbrev nX:List AO:=
 [(mt 35 9),o1 36 (.bin .eql (.t 35) (ci 8))]
abbrev nW:List AO:=
 [(mt 37 8),o1 2 (.mv (.c .sl0)),
  (mt 3 37),o1 4 (.mv (ci 15))]
abbrev nV:List AO:=
 [(mt 38 6),
  (mt 39 8),o1 40 (.bs 3 1 1 [.n .i64 0] [(0,1,(.t 39))]),o1 41 (.app 3 1 8 (.t 38) (.t 40)),
  (mt 42 7),o1 43 (.bs 3 1 1 [.n .i64 0] [(0,1,(.c (.n .i64 (-1))))]),o1 44 (.app 3 1 8 (.t 42) (.t 43)),
  (mt 6 41),
  (mt 7 44)]
abbrev nU:List AO:=
 [o1 46 (.bin .eql (.t 31) (ci 28)),
  (mt 45 46)]
abbrev nT:List AO:=
 [(mt 47 9),o1 48 (.bin .eql (.t 47) (ci 0)),
  (mt 49 48),
  (o4 50 49 (.mv (.t 0))),
  (o4 51 49 (.mv (.t 6))),
  (o4 52 49 (.mv (.t 9))),
  (o4 53 49 (.bin .sub (.t 52) (ci 1))),
  (o4 54 49 (.ia 1 (.t 51) (.t 53))),
  (o4 55 49 (.ld 1 false (.t 54))),
  (o4 56 49 (.ia 2 (.t 50) (.t 55))),
  (o4 57 49 (.fa 0 (.t 56))),
  (o4 58 49 (.ld 1 false (.t 57))),
  (o4 59 49 (.bin .neq (.t 58) (ci 27))),o1 60 (.pick (.t 49) (.c (.b true)) (.t 59)),
  (mt 61 60),
  (o4 62 61 (.mv (.t 7))),
  (o4 63 61 (.mv (.t 9))),
  (o4 64 61 (.bin .sub (.t 63) (ci 1))),
  (o4 65 61 (.ia 1 (.t 62) (.t 64))),
  (o4 66 61 (.ld 1 false (.t 65))),
  (o4 67 61 (.bin .geq (.t 66) (ci 0))),o1 68 (.pick (.t 61) (.c (.b true)) (.t 67))]
abbrev nS:List AO:=
 [(mt 69 8),o1 2 (.mv (.c .sl0)),
  (mt 3 69),o1 4 (.mv (ci 15))]
abbrev nR:List AO:=
 [(mt 70 7),
  (mt 71 9),o1 72 (.bin .sub (.t 71) (ci 1)),
  (mt 73 8),o1 74 (.ia 1 (.t 70) (.t 72)),
  (o3 (.st 1 (.t 74) (.t 73)))]
abbrev nQ:List AO:=
 [(mt 75 5),
  (mt 76 6),
  (mt 77 9),o1 78 (.bin .sub (.t 77) (ci 1)),o1 79 (.ia 1 (.t 76) (.t 78)),o1 80 (.ld 1 false (.t 79)),
  (mt 81 8),o1 82 (.ia 1 (.t 75) (.t 80)),
  (o3 (.st 1 (.t 82) (.t 81)))]
abbrev nP:List AO:=
 [o1 84 (.bin .eql (.t 31) (ci 30)),
  (mt 83 84)]
abbrev nN:List AO:=
 [(mt 85 0),
  (mt 86 6),
  (o2 87 100 [.t 85,.t 86]),o1 88 (.bin .lss (.t 87) (ci 0))]
abbrev nM:List AO:=
 [(mt 89 8),o1 2 (.mv (.c .sl0)),
  (mt 3 89),o1 4 (.mv (ci 15))]
abbrev nL:List AO:=
 [o1 91 (.bin .eql (.t 31) (ci 31)),
  (mt 90 91)]
abbrev nK:List AO:=
 [(mt 92 9),o1 93 (.bin .eql (.t 92) (ci 0))]
abbrev nJ:List AO:=
 [(mt 94 8),o1 2 (.mv (.c .sl0)),
  (mt 3 94),o1 4 (.mv (ci 15))]
abbrev nI:List AO:=
 [(mt 95 5),
  (mt 96 8),
  (mt 97 6),
  (mt 98 9),o1 99 (.bin .sub (.t 98) (ci 1)),o1 100 (.ia 1 (.t 97) (.t 99)),o1 101 (.ld 1 false (.t 100)),o1 102 (.ia 1 (.t 95) (.t 96)),
  (o3 (.st 1 (.t 102) (.t 101)))]
abbrev nH:List AO:=
 [(mt 103 7),
  (mt 104 9),o1 105 (.bin .sub (.t 104) (ci 1)),o1 106 (.ia 1 (.t 103) (.t 105)),o1 107 (.ld 1 false (.t 106)),o1 108 (.bin .geq (.t 107) (ci 0))]
abbrev nG:List AO:=
 [(mt 109 5),
  (mt 110 7),
  (mt 111 9),o1 112 (.bin .sub (.t 111) (ci 1)),o1 113 (.ia 1 (.t 110) (.t 112)),o1 114 (.ld 1 false (.t 113)),
  (mt 115 8),o1 116 (.ia 1 (.t 109) (.t 114)),
  (o3 (.st 1 (.t 116) (.t 115)))]
abbrev nF:List AO:=
 [(mt 117 5),
  (mt 118 6),
  (mt 119 9),o1 120 (.bin .sub (.t 119) (ci 1)),o1 121 (.ia 1 (.t 118) (.t 120)),o1 122 (.ld 1 false (.t 121)),
  (mt 123 8),o1 124 (.ia 1 (.t 117) (.t 122)),
  (o3 (.st 1 (.t 124) (.t 123)))]
abbrev n3:List (Nat×AO):=
 [(2,(mt 125 6)),
  (2,(mt 126 9)),(2,(o1 127 (.bin .sub (.t 126) (ci 1)))),(2,(o1 128 (.sl 1 (.t 125) none (some (.t 127))))),
  (2,(mt 129 7)),
  (2,(mt 130 9)),(2,(o1 131 (.bin .sub (.t 130) (ci 1)))),(2,(o1 132 (.sl 1 (.t 129) none (some (.t 131))))),
  (2,(mt 6 128)),
  (2,(mt 7 132))]
abbrev n6:AC:=
 (.seq (.seq (.reg nZ) (.cond (.t 32) .skip (.reg nY))) (.cond (.t 32) (.seq (.seq (.reg nX) (.cond (.t 36) (.seq (.reg nW) .ret) .skip)) (.reg nV)) (.seq (.reg nU) (.cond (.t 45) (.seq (.seq (.reg nT) (.cond (.t 68) (.seq (.reg nS) .ret) .skip)) (.seq (.reg nR) (.reg nQ))) (.seq (.reg nP) (.cond (.t 83) (.seq (.reg nN) (.cond (.t 88) (.seq (.reg nM) .ret) .skip)) (.seq (.reg nL) (.cond (.t 90) (.seq (.seq (.reg nK) (.cond (.t 93) (.seq (.reg nJ) .ret) .skip)) (.seq (.reg nI) (.seq (.seq (.reg nH) (.cond (.t 108) (.reg nG) (.reg nF))) (.mix n3)))) .skip))))))))
abbrev n5:AC:=
 (.seq (.reg zR) (.seq (.reg zQ) (.seq (.reg zP) (.block 2 n6))))
abbrev nC:List AO:=
 [(mt 20 8),o1 21 (.bin .add (.t 20) (ci 1)),
  (mt 8 21)]
abbrev n7:AC:=
 (.seq (.seq (.reg zS) (.cond (.t 19) .skip (.exit 0))) (.seq (.block 1 n5) (.reg nC)))
abbrev n4:AC:=
 (.loop n7)
abbrev nB:List AO:=
 [(mt 133 6),o1 134 (.len (.t 133)),o1 135 (.bin .gtr (.t 134) (ci 0))]
abbrev nA:List AO:=
 [(mt 136 0),o1 137 (.len (.t 136)),o1 2 (.mv (.c .sl0)),
  (mt 3 137),o1 4 (.mv (ci 15))]
abbrev nz:List AO:=
 [(mt 138 0),
  (mt 139 5),
  (o2 140 101 [.t 138,.t 139]),
  (mt 2 140),o1 3 (.mv (ci 0)),o1 4 (.mv (ci 0))]
abbrev rM:AF:=⟨141,(.seq (.reg zY) (.seq (.seq (.reg zX) (.cond (.t 12) (.seq (.reg zW) .ret) .skip)) (.seq (.reg zV) (.seq (.reg zU) (.seq (.seq (.reg zT) (.block 0 n4)) (.seq (.seq (.reg nB) (.cond (.t 135) (.seq (.reg nA) .ret) .skip)) (.seq (.reg nz) .ret))))))),[.mv (.t 2),.mv (.t 3),.mv (.t 4)]⟩
theorem zZ:ae Tryz.prog (aa Tryz.prog 83) 83=some rM:=by kernel_rfl
/-! compactorref18.tree-/
abbrev zL:List AO:=
 [o1 8 (.mv (.c .sl0))]
abbrev zK:List AO:=
 [o1 9 (.mv (.c .sl0))]
abbrev zJ:List AO:=
 [(mt 14 2),
  (mt 10 14)]
abbrev zI:List AO:=
 [(mt 15 10),
  (mt 16 3),o1 17 (.bin .lss (.t 15) (.t 16))]
abbrev zH:List AO:=
 [(mt 18 0),
  (mt 19 10),o1 20 (.ia 2 (.t 18) (.t 19)),o1 21 (.fa 0 (.t 20)),o1 22 (.ld 1 false (.t 21)),o1 23 (.bin .neq (.t 22) (ci 27)),
  (mt 24 23),
  (o5 25 24 (.mv (.t 0))),
  (o5 26 24 (.mv (.t 10))),
  (o5 27 24 (.ia 2 (.t 25) (.t 26))),
  (o5 28 24 (.fa 0 (.t 27))),
  (o5 29 24 (.ld 1 false (.t 28))),
  (o5 30 24 (.bin .neq (.t 29) (ci 29))),o1 31 (.pick (.t 24) (.t 30) (.c (.b false)))]
abbrev zG:List AO:=
 [(mt 32 10),
  (mt 11 32)]
abbrev zF:List AO:=
 [(mt 33 11),
  (mt 34 3),o1 35 (.bin .lss (.t 33) (.t 34)),
  (mt 36 35),
  (o5 37 36 (.mv (.t 0))),
  (o5 38 36 (.mv (.t 11))),
  (o5 39 36 (.ia 2 (.t 37) (.t 38))),
  (o5 40 36 (.fa 0 (.t 39))),
  (o5 41 36 (.ld 1 false (.t 40))),
  (o5 42 36 (.bin .neq (.t 41) (ci 27))),o1 43 (.pick (.t 36) (.t 42) (.c (.b false))),
  (mt 44 43),
  (o5 45 44 (.mv (.t 0))),
  (o5 46 44 (.mv (.t 11))),
  (o5 47 44 (.ia 2 (.t 45) (.t 46))),
  (o5 48 44 (.fa 0 (.t 47))),
  (o5 49 44 (.ld 1 false (.t 48))),
  (o5 50 44 (.bin .neq (.t 49) (ci 29))),o1 51 (.pick (.t 44) (.t 50) (.c (.b false)))]
abbrev zE:List AO:=
 [(mt 52 11),o1 53 (.bin .add (.t 52) (ci 1)),
  (mt 11 53)]
abbrev zN:AC:=
 (.reg zE)
abbrev zO:AC:=
 (.seq (.seq (.reg zF) (.cond (.t 51) .skip (.exit 2))) (.block 3 zN))
abbrev nw:AC:=
 (.loop zO)
abbrev ns:List AO:=
 [(mt 54 9),
  (mt 55 10),
  (mt 56 11),o1 57 (.bd [.n .i64 0,.n .i64 0,.n .i64 0,.sl0,.sl0] [(0,1,(.c (.n .i64 (-1)))),(1,1,(.t 55)),(2,1,(.t 56))]),o1 58 (.bs 106 5 1 [.n .i64 0,.n .i64 0,.n .i64 0,.sl0,.sl0] [(0,5,(.t 57))]),o1 59 (.app 106 5 72 (.t 54) (.t 58)),
  (mt 9 59)]
abbrev nr:List AO:=
 [(mt 60 11),
  (mt 10 60)]
abbrev nq:List AO:=
 [(mt 61 0),
  (mt 62 10),o1 63 (.ia 2 (.t 61) (.t 62)),o1 64 (.fa 0 (.t 63)),o1 65 (.ld 1 false (.t 64)),
  (mt 66 10),o1 67 (.bd [.n .i64 0,.n .i64 0,.n .i64 0,.sl0,.sl0] [(0,1,(.t 65)),(1,1,(.t 66))]),o1 12 (.al 106 [.n .i64 0,.n .i64 0,.n .i64 0,.sl0,.sl0]),
  (o3 (.st 5 (.t 12) (.t 67)))]
abbrev np:List AO:=
 [(mt 68 1),
  (mt 69 10),o1 70 (.ia 1 (.t 68) (.t 69)),o1 71 (.ld 1 false (.t 70)),
  (mt 13 71)]
abbrev nk:List AO:=
 [(mt 72 0),
  (mt 73 1),
  (mt 74 10),o1 75 (.bin .add (.t 74) (ci 1)),
  (mt 76 13),
  (o2 77 84 [.t 72,.t 73,.t 75,.t 76]),o1 78 (.fa 3 (.t 12)),
  (o3 (.st 1 (.t 78) (.t 77)))]
abbrev nj:List AO:=
 [(mt 79 13),o1 80 (.bin .add (.t 79) (ci 1)),o1 81 (.fa 2 (.t 12)),
  (o3 (.st 1 (.t 81) (.t 80)))]
abbrev ni:List AO:=
 [(mt 82 0),
  (mt 83 13),o1 84 (.ia 2 (.t 82) (.t 83)),o1 85 (.fa 0 (.t 84)),o1 86 (.ld 1 false (.t 85)),o1 87 (.bin .eql (.t 86) (ci 28))]
abbrev nh:List AO:=
 [(mt 88 0),
  (mt 89 1),
  (mt 90 13),o1 91 (.bin .add (.t 90) (ci 1)),
  (mt 92 1),
  (mt 93 13),o1 94 (.ia 1 (.t 92) (.t 93)),o1 95 (.ld 1 false (.t 94)),
  (o2 96 84 [.t 88,.t 89,.t 91,.t 95]),o1 97 (.fa 4 (.t 12)),
  (o3 (.st 1 (.t 97) (.t 96)))]
abbrev ng:List AO:=
 [(mt 98 1),
  (mt 99 13),o1 100 (.ia 1 (.t 98) (.t 99)),o1 101 (.ld 1 false (.t 100)),o1 102 (.bin .add (.t 101) (ci 1)),o1 103 (.fa 2 (.t 12)),
  (o3 (.st 1 (.t 103) (.t 102)))]
abbrev nf:List AO:=
 [(mt 104 9),o1 105 (.ld 5 true (.t 12)),o1 106 (.bs 106 5 1 [.n .i64 0,.n .i64 0,.n .i64 0,.sl0,.sl0] [(0,5,(.t 105))]),o1 107 (.app 106 5 72 (.t 104) (.t 106)),
  (mt 9 107)]
abbrev m9:List AO:=
 [o1 108 (.fa 2 (.t 12)),o1 109 (.ld 1 false (.t 108)),
  (mt 10 109)]
abbrev nv:AC:=
 (.seq (.seq (.reg zH) (.cond (.t 31) (.seq (.reg zG) (.seq (.block 2 nw) (.seq (.reg ns) (.seq (.reg nr) (.exit 1))))) .skip)) (.seq (.reg nq) (.seq (.reg np) (.seq (.reg nk) (.seq (.reg nj) (.seq (.seq (.reg ni) (.cond (.t 87) (.seq (.reg nh) (.reg ng)) .skip)) (.seq (.reg nf) (.reg m9))))))))
abbrev ny:AC:=
 (.seq (.seq (.reg zI) (.cond (.t 17) .skip (.exit 0))) (.block 1 nv))
abbrev nu:AC:=
 (.loop ny)
abbrev m8:List AO:=
 [(mt 110 9),
  (mt 8 110)]
abbrev rL:AF:=⟨111,(.seq (.reg zL) (.seq (.reg zK) (.seq (.reg zJ) (.seq (.block 0 nu) (.seq (.reg m8) .ret))))),[.mv (.t 8)]⟩
theorem zM:ae Tryz.prog (aa Tryz.prog 84) 84=some rL:=by kernel_rfl
/-! instruction.operations$1-/
abbrev zC:List AO:=
 [o1 2 (.al 96 [.s ⟨#[]⟩,.s ⟨#[]⟩,.s ⟨#[]⟩,.n .u64 0,.b false])]
abbrev zB:List AO:=
 [(mt 3 0),o1 4 (.bd [.s ⟨#[]⟩,.s ⟨#[]⟩,.s ⟨#[]⟩,.n .u64 0,.b false] [(0,1,(.t 3)),(1,1,(.c (.s ⟨#[110,110]⟩))),(2,1,(.c (.s ⟨#[110]⟩))),(3,1,(.c (.n .u64 1))),(4,1,(.c (.b false)))]),
  (o3 (.st 5 (.t 2) (.t 4)))]
abbrev rK:AF:=⟨5,(.seq (.reg zC) (.seq (.reg zB) .ret)),[.ld 5 true (.t 2)]⟩
theorem zD:ae Tryz.prog (aa Tryz.prog 95) 95=some rK:=by kernel_rfl
/-! instruction.operations$2-/
abbrev zz:List AO:=
 [o1 6 (.al 96 [.s ⟨#[]⟩,.s ⟨#[]⟩,.s ⟨#[]⟩,.n .u64 0,.b false])]
abbrev zy:List AO:=
 [(mt 7 0),
  (mt 8 1),
  (mt 9 2),o1 10 (.bd [.s ⟨#[]⟩,.s ⟨#[]⟩,.s ⟨#[]⟩,.n .u64 0,.b false] [(0,1,(.t 7)),(1,1,(.t 8)),(2,1,(.t 9)),(3,1,(.c (.n .u64 1))),(4,1,(.c (.b false)))]),
  (o3 (.st 5 (.t 6) (.t 10)))]
abbrev rJ:AF:=⟨11,(.seq (.reg zz) (.seq (.reg zy) .ret)),[.ld 5 true (.t 6)]⟩
theorem zA:ae Tryz.prog (aa Tryz.prog 96) 96=some rJ:=by kernel_rfl
/-! compactorref18.innermost-/
abbrev zs:List AO:=
 [o1 4 (.mv (ci 0))]
abbrev zr:List AO:=
 [(mt 6 1),o1 7 (.len (.t 6)),o1 8 (.bin .sub (.t 7) (ci 1)),
  (mt 5 8)]
abbrev zq:List AO:=
 [(mt 9 5),o1 10 (.bin .geq (.t 9) (ci 0))]
abbrev zp:List AO:=
 [(mt 13 0),
  (mt 14 1),
  (mt 15 5),o1 16 (.ia 1 (.t 14) (.t 15)),o1 17 (.ld 1 false (.t 16)),o1 18 (.ia 2 (.t 13) (.t 17)),o1 19 (.fa 0 (.t 18)),o1 20 (.ld 1 false (.t 19)),o1 21 (.bin .eql (.t 20) (ci 29))]
abbrev zo:List AO:=
 [(mt 22 1),
  (mt 23 5),o1 24 (.ia 1 (.t 22) (.t 23)),o1 25 (.ld 1 false (.t 24)),
  (mt 4 25)]
abbrev zw:AC:=
 (.seq (.reg zp) (.cond (.t 21) (.seq (.reg zo) .ret) .skip))
abbrev zn:List AO:=
 [(mt 11 5),o1 12 (.bin .sub (.t 11) (ci 1)),
  (mt 5 12)]
abbrev zx:AC:=
 (.seq (.seq (.reg zq) (.cond (.t 10) .skip (.exit 0))) (.seq (.block 1 zw) (.reg zn)))
abbrev zv:AC:=
 (.loop zx)
abbrev zm:List AO:=
 [o1 4 (.mv (.c (.n .i64 (-1))))]
abbrev rI:AF:=⟨26,(.seq (.reg zs) (.seq (.seq (.reg zr) (.block 0 zv)) (.seq (.reg zm) .ret))),[.mv (.t 4)]⟩
theorem zt:ae Tryz.prog (aa Tryz.prog 100) 100=some rI:=by kernel_rfl
/-! compactorref18.leaves-/
abbrev zk:List AO:=
 [o1 4 (.mv (.c .sl0))]
abbrev zj:List AO:=
 [o1 5 (.mv (.c .sl0))]
abbrev zi:List AO:=
 [o1 6 (.mv (ci 0))]
abbrev zh:List AO:=
 [(mt 7 6),
  (mt 8 0),o1 9 (.len (.t 8)),o1 10 (.bin .lss (.t 7) (.t 9))]
abbrev zg:List AO:=
 [(mt 14 0),
  (mt 15 6),o1 16 (.ia 2 (.t 14) (.t 15)),o1 17 (.fa 0 (.t 16)),o1 18 (.ld 1 false (.t 17)),o1 19 (.bin .eql (.t 18) (ci 29)),
  (mt 13 19)]
abbrev zf:List AO:=
 [(mt 20 5),
  (mt 21 6),o1 22 (.bs 3 1 1 [.n .i64 0] [(0,1,(.t 21))]),o1 23 (.app 3 1 8 (.t 20) (.t 22)),
  (mt 5 23)]
abbrev ze:List AO:=
 [(mt 25 0),
  (mt 26 6),o1 27 (.ia 2 (.t 25) (.t 26)),o1 28 (.fa 0 (.t 27)),o1 29 (.ld 1 false (.t 28)),o1 30 (.bin .eql (.t 29) (ci 31)),
  (mt 31 30),
  (o5 32 31 (.mv (.t 0))),
  (o5 33 31 (.mv (.t 1))),
  (o5 34 31 (.mv (.t 6))),
  (o5 35 31 (.ia 1 (.t 33) (.t 34))),
  (o5 36 31 (.ld 1 false (.t 35))),
  (o5 37 31 (.ia 2 (.t 32) (.t 36))),
  (o5 38 31 (.fa 0 (.t 37))),
  (o5 39 31 (.ld 1 false (.t 38))),
  (o5 40 31 (.bin .eql (.t 39) (ci 29))),o1 41 (.pick (.t 31) (.t 40) (.c (.b false))),
  (mt 24 41)]
abbrev zd:List AO:=
 [(mt 42 5),
  (mt 43 5),o1 44 (.len (.t 43)),o1 45 (.bin .sub (.t 44) (ci 1)),o1 46 (.sl 1 (.t 42) none (some (.t 45))),
  (mt 5 46)]
abbrev zc:List AO:=
 [(mt 48 0),
  (mt 49 6),o1 50 (.ia 2 (.t 48) (.t 49)),o1 51 (.fa 0 (.t 50)),o1 52 (.ld 1 false (.t 51)),o1 53 (.bin .eql (.t 52) (ci 30)),
  (mt 47 53)]
abbrev zb:List AO:=
 [(mt 54 1),
  (mt 55 6),
  (mt 56 1),
  (mt 57 5),
  (mt 58 5),o1 59 (.len (.t 58)),o1 60 (.bin .sub (.t 59) (ci 1)),o1 61 (.ia 1 (.t 57) (.t 60)),o1 62 (.ld 1 false (.t 61)),o1 63 (.ia 1 (.t 56) (.t 62)),o1 64 (.ld 1 false (.t 63)),o1 65 (.ia 1 (.t 54) (.t 55)),
  (o3 (.st 1 (.t 65) (.t 64)))]
abbrev m6:AC:=
 (.seq (.reg zg) (.cond (.t 13) (.reg zf) (.seq (.reg ze) (.cond (.t 24) (.reg zd) (.seq (.reg zc) (.cond (.t 47) (.reg zb) .skip))))))
abbrev m0:AC:=
 (.block 2 m6)
abbrev mY:List AO:=
 [(mt 11 6),o1 12 (.bin .add (.t 11) (ci 1)),
  (mt 6 12)]
abbrev m7:AC:=
 (.seq (.seq (.reg zh) (.cond (.t 10) .skip (.exit 0))) (.seq (.block 1 m0) (.reg mY)))
abbrev mZ:AC:=
 (.loop m7)
abbrev mX:List AO:=
 [(mt 66 1),
  (mt 4 66)]
abbrev rH:AF:=⟨67,(.seq (.reg zk) (.seq (.reg zj) (.seq (.seq (.reg zi) (.block 0 mZ)) (.seq (.reg mX) .ret)))),[.mv (.t 4)]⟩
theorem zl:ae Tryz.prog (aa Tryz.prog 101) 101=some rH:=by kernel_rfl
/-! interval.Within-/
abbrev y9:List AO:=
 [o1 2 (.bx 123 0 (.t 0)),o1 3 (.bx 123 0 (.t 1)),o1 4 (.mv (.c (.b false)))]
abbrev y8:List AO:=
 [o1 5 (.ld 2 true (.t 2)),o1 6 (.ld 2 true (.t 3)),
  (o2 7 92 [.t 5,.t 6]),
  (mt 8 7),
  (o5 9 8 (.fa 0 (.t 3))),
  (o5 10 8 (.ld 1 false (.t 9))),
  (o5 11 8 (.fa 0 (.t 2))),
  (o5 12 8 (.ld 1 false (.t 11))),
  (o5 13 8 (.bin .leq (.t 10) (.t 12))),o1 14 (.pick (.t 8) (.t 13) (.c (.b false))),
  (mt 15 14),
  (o5 16 15 (.fa 1 (.t 2))),
  (o5 17 15 (.ld 1 false (.t 16))),
  (o5 18 15 (.fa 1 (.t 3))),
  (o5 19 15 (.ld 1 false (.t 18))),
  (o5 20 15 (.bin .leq (.t 17) (.t 19))),o1 21 (.pick (.t 15) (.t 20) (.c (.b false))),
  (mt 4 21)]
abbrev rF:AF:=⟨22,(.seq (.reg y9) (.seq (.reg y8) .ret)),[.mv (.t 4)]⟩
theorem za:ae Tryz.prog (aa Tryz.prog 118) 118=some rF:=by kernel_rfl
/-! interval.operands.add-/
abbrev yZ:List AO:=
 [o1 1 (.bx 202 0 (.t 0)),o1 2 (.al 123 [.n .i64 0,.n .i64 0])]
abbrev yY:List AO:=
 [o1 3 (.fa 0 (.t 1)),o1 4 (.ld 1 false (.t 3)),o1 5 (.fa 2 (.t 1)),o1 6 (.ld 1 false (.t 5)),o1 7 (.bin .add (.t 4) (.t 6)),o1 8 (.fa 1 (.t 1)),o1 9 (.ld 1 false (.t 8)),o1 10 (.fa 3 (.t 1)),o1 11 (.ld 1 false (.t 10)),o1 12 (.bin .add (.t 9) (.t 11)),
  (o2 13 138 [.t 7,.t 12]),
  (o3 (.st 2 (.t 2) (.t 13)))]
abbrev rE:AF:=⟨14,(.seq (.reg yZ) (.seq (.reg yY) .ret)),[.ld 2 true (.t 2)]⟩
theorem y6:ae Tryz.prog (aa Tryz.prog 124) 124=some rE:=by kernel_rfl
/-! interval.operands.sub-/
abbrev yW:List AO:=
 [o1 1 (.bx 202 0 (.t 0)),o1 2 (.al 123 [.n .i64 0,.n .i64 0])]
abbrev yV:List AO:=
 [o1 3 (.fa 0 (.t 1)),o1 4 (.ld 1 false (.t 3)),o1 5 (.fa 3 (.t 1)),o1 6 (.ld 1 false (.t 5)),o1 7 (.bin .sub (.t 4) (.t 6)),o1 8 (.fa 1 (.t 1)),o1 9 (.ld 1 false (.t 8)),o1 10 (.fa 2 (.t 1)),o1 11 (.ld 1 false (.t 10)),o1 12 (.bin .sub (.t 9) (.t 11)),
  (o2 13 138 [.t 7,.t 12]),
  (o3 (.st 2 (.t 2) (.t 13)))]
abbrev rD:AF:=⟨14,(.seq (.reg yW) (.seq (.reg yV) .ret)),[.ld 2 true (.t 2)]⟩
theorem yX:ae Tryz.prog (aa Tryz.prog 125) 125=some rD:=by kernel_rfl
/-! interval.operands.mul-/
abbrev yS:List AO:=
 [o1 1 (.bx 202 0 (.t 0)),o1 2 (.al 123 [.n .i64 0,.n .i64 0])]
abbrev yU:List (Nat×AO):=
 [(2,(o1 3 (.fa 3 (.t 1)))),(1,(o1 4 (.ld 1 false (.t 3)))),(2,(o1 5 (.bin .gtr (.t 4) (ci 0)))),
  (2,(mt 6 5)),
  (2,(o5 7 6 (.fa 1 (.t 1)))),
  (2,(o5 9 6 (.fa 3 (.t 1)))),
  (1,(o5 8 6 (.ld 1 false (.t 7)))),
  (1,(o5 10 6 (.ld 1 false (.t 9)))),
  (2,(o5 11 6 (.bin .quo (ci 4294967295) (.t 10)))),
  (2,(o5 12 6 (.bin .gtr (.t 8) (.t 11)))),(2,(o1 13 (.pick (.t 6) (.t 12) (.c (.b false)))))]
abbrev yR:List AO:=
 [(o2 14 73 []),
  (o3 (.st 2 (.t 2) (.t 14)))]
abbrev yQ:List AO:=
 [o1 15 (.fa 0 (.t 1)),o1 16 (.ld 1 false (.t 15)),o1 17 (.fa 2 (.t 1)),o1 18 (.ld 1 false (.t 17)),o1 19 (.bin .mul (.t 16) (.t 18)),o1 20 (.fa 1 (.t 1)),o1 21 (.ld 1 false (.t 20)),o1 22 (.fa 3 (.t 1)),o1 23 (.ld 1 false (.t 22)),o1 24 (.bin .mul (.t 21) (.t 23)),o1 25 (.bd [.n .i64 0,.n .i64 0] [(0,1,(.t 19)),(1,1,(.t 24))]),
  (o3 (.st 2 (.t 2) (.t 25)))]
abbrev rC:AF:=⟨26,(.seq (.reg yS) (.seq (.seq (.mix yU) (.cond (.t 13) (.seq (.reg yR) .ret) .skip)) (.seq (.reg yQ) .ret))),[.ld 2 true (.t 2)]⟩
theorem yT:ae Tryz.prog (aa Tryz.prog 126) 126=some rC:=by kernel_rfl
/-! interval.operands.div-/
abbrev yN:List AO:=
 [o1 1 (.bx 202 0 (.t 0)),o1 2 (.al 123 [.n .i64 0,.n .i64 0])]
abbrev yP:List (Nat×AO):=
 [(2,(o1 3 (.fa 0 (.t 1)))),(2,(o1 5 (.fa 3 (.t 1)))),(2,(o1 8 (.fa 1 (.t 1)))),(2,(o1 10 (.fa 2 (.t 1)))),(1,(o1 4 (.ld 1 false (.t 3)))),(1,(o1 6 (.ld 1 false (.t 5)))),(2,(o1 7 (.bin .quo (.t 4) (.t 6)))),(1,(o1 9 (.ld 1 false (.t 8)))),(1,(o1 11 (.ld 1 false (.t 10)))),(2,(o1 12 (.bin .quo (.t 9) (.t 11)))),(2,(o1 13 (.bd [.n .i64 0,.n .i64 0] [(0,1,(.t 7)),(1,1,(.t 12))]))),
  (3,(o3 (.st 2 (.t 2) (.t 13))))]
abbrev rB:AF:=⟨14,(.seq (.reg yN) (.seq (.mix yP) .ret)),[.ld 2 true (.t 2)]⟩
theorem yO:ae Tryz.prog (aa Tryz.prog 127) 127=some rB:=by kernel_rfl
/-! interval.operands.mod-/
abbrev yL:List AO:=
 [o1 1 (.bx 202 0 (.t 0)),o1 2 (.al 123 [.n .i64 0,.n .i64 0])]
abbrev yK:List AO:=
 [o1 3 (.fa 1 (.t 1)),o1 4 (.ld 1 false (.t 3)),o1 5 (.fa 2 (.t 1)),o1 6 (.ld 1 false (.t 5)),o1 7 (.bin .lss (.t 4) (.t 6))]
abbrev yJ:List AO:=
 [o1 8 (.fa 0 (.t 1)),o1 9 (.ld 1 false (.t 8)),o1 10 (.fa 1 (.t 1)),o1 11 (.ld 1 false (.t 10)),o1 12 (.bd [.n .i64 0,.n .i64 0] [(0,1,(.t 9)),(1,1,(.t 11))]),
  (o3 (.st 2 (.t 2) (.t 12)))]
abbrev yI:List AO:=
 [o1 13 (.fa 1 (.t 1)),o1 14 (.ld 1 false (.t 13)),o1 15 (.fa 3 (.t 1)),o1 16 (.ld 1 false (.t 15)),o1 17 (.bin .sub (.t 16) (ci 1)),⟨some 18,none,.mo (.mi (.t 14) (.t 17))⟩,o1 19 (.bd [.n .i64 0,.n .i64 0] [(1,1,(.t 18))]),
  (o3 (.st 2 (.t 2) (.t 19)))]
abbrev rA:AF:=⟨20,(.seq (.reg yL) (.seq (.seq (.reg yK) (.cond (.t 7) (.seq (.reg yJ) .ret) .skip)) (.seq (.reg yI) .ret))),[.ld 2 true (.t 2)]⟩
theorem yM:ae Tryz.prog (aa Tryz.prog 128) 128=some rA:=by kernel_rfl
/-! interval.operands.and-/
abbrev yG:List AO:=
 [o1 1 (.bx 202 0 (.t 0)),o1 2 (.al 123 [.n .i64 0,.n .i64 0])]
abbrev yF:List AO:=
 [o1 3 (.fa 1 (.t 1)),o1 4 (.ld 1 false (.t 3)),o1 5 (.fa 3 (.t 1)),o1 6 (.ld 1 false (.t 5)),⟨some 7,none,.mo (.mi (.t 4) (.t 6))⟩,o1 8 (.bd [.n .i64 0,.n .i64 0] [(1,1,(.t 7))]),
  (o3 (.st 2 (.t 2) (.t 8)))]
abbrev rz:AF:=⟨9,(.seq (.reg yG) (.seq (.reg yF) .ret)),[.ld 2 true (.t 2)]⟩
theorem yH:ae Tryz.prog (aa Tryz.prog 129) 129=some rz:=by kernel_rfl
/-! interval.operands.or-/
abbrev yC:List AO:=
 [o1 1 (.bx 202 0 (.t 0)),o1 2 (.al 123 [.n .i64 0,.n .i64 0])]
abbrev yE:List (Nat×AO):=
 [(2,(o1 3 (.fa 0 (.t 1)))),(1,(o1 4 (.ld 1 false (.t 3)))),(2,(o1 5 (.fa 2 (.t 1)))),(1,(o1 6 (.ld 1 false (.t 5)))),(2,(o1 8 (.fa 1 (.t 1)))),(1,(o1 9 (.ld 1 false (.t 8)))),(2,(o1 10 (.fa 3 (.t 1)))),(1,(o1 11 (.ld 1 false (.t 10))))]
abbrev yB:AT:=
 (.alt ⟨some 7,none,.mo (.mx (.t 4) (.t 6))⟩ (.alt ⟨some 12,none,.mo (.mx (.t 9) (.t 11))⟩ (.alt (o2 13 139 [.t 12]) (.alt (o1 14 (.bd [.n .i64 0,.n .i64 0] [(0,1,(.t 7)),(1,1,(.t 13))])) (.alt (o3 (.st 2 (.t 2) (.t 14))) .fin .none) .none) .none) .none) (.alt ⟨some 12,none,.mo (.mx (.t 9) (.t 11))⟩ (.alt ⟨some 7,none,.mo (.mx (.t 4) (.t 6))⟩ (.alt (o2 13 139 [.t 12]) (.alt (o1 14 (.bd [.n .i64 0,.n .i64 0] [(0,1,(.t 7)),(1,1,(.t 13))])) (.alt (o3 (.st 2 (.t 2) (.t 14))) .fin .none) .none) .none) (.alt (o2 13 139 [.t 12]) (.alt ⟨some 7,none,.mo (.mx (.t 4) (.t 6))⟩ (.alt (o1 14 (.bd [.n .i64 0,.n .i64 0] [(0,1,(.t 7)),(1,1,(.t 13))])) (.alt (o3 (.st 2 (.t 2) (.t 14))) .fin .none) .none) .none) .none)) .none))
abbrev ry:AF:=⟨15,(.seq (.reg yC) (.seq (.frk yE yB) .ret)),[.ld 2 true (.t 2)]⟩
theorem yD:ae Tryz.prog (aa Tryz.prog 130) 130=some ry:=by kernel_rfl
/-! interval.operands.xor-/
abbrev yz:List AO:=
 [o1 1 (.bx 202 0 (.t 0)),o1 2 (.al 123 [.n .i64 0,.n .i64 0])]
abbrev yx:List AO:=
 [o1 3 (.fa 1 (.t 1)),o1 4 (.ld 1 false (.t 3)),o1 5 (.fa 3 (.t 1)),o1 6 (.ld 1 false (.t 5)),⟨some 7,none,.mo (.mx (.t 4) (.t 6))⟩,
  (o2 8 139 [.t 7]),o1 9 (.bd [.n .i64 0,.n .i64 0] [(1,1,(.t 8))]),
  (o3 (.st 2 (.t 2) (.t 9)))]
abbrev rx:AF:=⟨10,(.seq (.reg yz) (.seq (.reg yx) .ret)),[.ld 2 true (.t 2)]⟩
theorem yA:ae Tryz.prog (aa Tryz.prog 131) 131=some rx:=by kernel_rfl
/-! interval.operands.shl-/
abbrev yq:List AO:=
 [o1 1 (.bx 202 0 (.t 0)),o1 2 (.al 123 [.n .i64 0,.n .i64 0])]
abbrev yp:List AO:=
 [o1 4 (.fa 2 (.t 1)),o1 5 (.ld 1 false (.t 4)),o1 6 (.bin .rem (.t 5) (ci 32)),
  (mt 3 6)]
abbrev yw:List (Nat×AO):=
 [(2,(o1 7 (.fa 2 (.t 1)))),(2,(o1 9 (.fa 3 (.t 1)))),(1,(o1 8 (.ld 1 false (.t 7)))),(1,(o1 10 (.ld 1 false (.t 9)))),(2,(o1 11 (.bin .neq (.t 8) (.t 10)))),
  (2,(mt 12 11)),
  (2,(o4 13 12 (.fa 1 (.t 1)))),
  (2,(o4 15 12 (.mv (.t 3)))),
  (2,(o4 16 12 (.bin .shr (ci 4294967295) (.t 15)))),
  (1,(o4 14 12 (.ld 1 false (.t 13)))),
  (2,(o4 17 12 (.bin .gtr (.t 14) (.t 16)))),(2,(o1 18 (.pick (.t 12) (.c (.b true)) (.t 17))))]
abbrev yo:List AO:=
 [(o2 19 73 []),
  (o3 (.st 2 (.t 2) (.t 19)))]
abbrev yu:List (Nat×AO):=
 [(2,(o1 20 (.fa 0 (.t 1)))),
  (2,(mt 22 3)),(2,(o1 24 (.fa 1 (.t 1)))),
  (2,(mt 26 3)),(1,(o1 21 (.ld 1 false (.t 20)))),(2,(o1 23 (.bin .shl (.t 21) (.t 22)))),(1,(o1 25 (.ld 1 false (.t 24)))),(2,(o1 27 (.bin .shl (.t 25) (.t 26)))),(2,(o1 28 (.bd [.n .i64 0,.n .i64 0] [(0,1,(.t 23)),(1,1,(.t 27))]))),
  (3,(o3 (.st 2 (.t 2) (.t 28))))]
abbrev rv:AF:=⟨29,(.seq (.reg yq) (.seq (.reg yp) (.seq (.seq (.mix yw) (.cond (.t 18) (.seq (.reg yo) .ret) .skip)) (.seq (.mix yu) .ret)))),[.ld 2 true (.t 2)]⟩
theorem yr:ae Tryz.prog (aa Tryz.prog 132) 132=some rv:=by kernel_rfl
/-! interval.operands.shr-/
abbrev yj:List AO:=
 [o1 1 (.bx 202 0 (.t 0)),o1 2 (.al 123 [.n .i64 0,.n .i64 0])]
abbrev yi:List AO:=
 [o1 4 (.fa 3 (.t 1)),o1 5 (.ld 1 false (.t 4)),o1 6 (.bin .leq (.t 5) (ci 31)),
  (mt 3 6)]
abbrev ym:List (Nat×AO):=
 [(2,(o1 7 (.fa 0 (.t 1)))),(2,(o1 9 (.fa 3 (.t 1)))),(2,(o1 12 (.fa 1 (.t 1)))),(2,(o1 14 (.fa 2 (.t 1)))),(1,(o1 8 (.ld 1 false (.t 7)))),(1,(o1 10 (.ld 1 false (.t 9)))),(2,(o1 11 (.bin .shr (.t 8) (.t 10)))),(1,(o1 13 (.ld 1 false (.t 12)))),(1,(o1 15 (.ld 1 false (.t 14)))),(2,(o1 16 (.bin .shr (.t 13) (.t 15)))),(2,(o1 17 (.bd [.n .i64 0,.n .i64 0] [(0,1,(.t 11)),(1,1,(.t 16))]))),
  (3,(o3 (.st 2 (.t 2) (.t 17))))]
abbrev yh:List AO:=
 [o1 19 (.fa 2 (.t 1)),o1 20 (.ld 1 false (.t 19)),o1 21 (.fa 3 (.t 1)),o1 22 (.ld 1 false (.t 21)),o1 23 (.bin .eql (.t 20) (.t 22)),
  (mt 18 23)]
abbrev yl:List (Nat×AO):=
 [(2,(o1 24 (.fa 0 (.t 1)))),(2,(o1 26 (.fa 2 (.t 1)))),(2,(o1 30 (.fa 1 (.t 1)))),(2,(o1 32 (.fa 2 (.t 1)))),(1,(o1 25 (.ld 1 false (.t 24)))),(1,(o1 27 (.ld 1 false (.t 26)))),(2,(o1 28 (.bin .rem (.t 27) (ci 32)))),(2,(o1 29 (.bin .shr (.t 25) (.t 28)))),(1,(o1 31 (.ld 1 false (.t 30)))),(1,(o1 33 (.ld 1 false (.t 32)))),(2,(o1 34 (.bin .rem (.t 33) (ci 32)))),(2,(o1 35 (.bin .shr (.t 31) (.t 34)))),(2,(o1 36 (.bd [.n .i64 0,.n .i64 0] [(0,1,(.t 29)),(1,1,(.t 35))]))),
  (3,(o3 (.st 2 (.t 2) (.t 36))))]
abbrev yn:AC:=
 (.seq (.reg yi) (.cond (.t 3) (.seq (.mix ym) .ret) (.seq (.reg yh) (.cond (.t 18) (.seq (.mix yl) .ret) .skip))))
abbrev yg:List AO:=
 [o1 37 (.fa 1 (.t 1)),o1 38 (.ld 1 false (.t 37)),o1 39 (.bd [.n .i64 0,.n .i64 0] [(1,1,(.t 38))]),
  (o3 (.st 2 (.t 2) (.t 39)))]
abbrev rr:AF:=⟨40,(.seq (.reg yj) (.seq (.block 0 yn) (.seq (.reg yg) .ret))),[.ld 2 true (.t 2)]⟩
theorem yk:ae Tryz.prog (aa Tryz.prog 133) 133=some rr:=by kernel_rfl
/-! interval.operands.least-/
abbrev ye:List AO:=
 [o1 1 (.bx 202 0 (.t 0)),o1 2 (.al 123 [.n .i64 0,.n .i64 0])]
abbrev yd:List AO:=
 [o1 3 (.fa 0 (.t 1)),o1 4 (.ld 1 false (.t 3)),o1 5 (.fa 2 (.t 1)),o1 6 (.ld 1 false (.t 5)),⟨some 7,none,.mo (.mi (.t 4) (.t 6))⟩,o1 8 (.fa 1 (.t 1)),o1 9 (.ld 1 false (.t 8)),o1 10 (.fa 3 (.t 1)),o1 11 (.ld 1 false (.t 10)),⟨some 12,none,.mo (.mi (.t 9) (.t 11))⟩,o1 13 (.bd [.n .i64 0,.n .i64 0] [(0,1,(.t 7)),(1,1,(.t 12))]),
  (o3 (.st 2 (.t 2) (.t 13)))]
abbrev rq:AF:=⟨14,(.seq (.reg ye) (.seq (.reg yd) .ret)),[.ld 2 true (.t 2)]⟩
theorem yf:ae Tryz.prog (aa Tryz.prog 134) 134=some rq:=by kernel_rfl
/-! interval.operands.greatest-/
abbrev yb:List AO:=
 [o1 1 (.bx 202 0 (.t 0)),o1 2 (.al 123 [.n .i64 0,.n .i64 0])]
abbrev ya:List AO:=
 [o1 3 (.fa 0 (.t 1)),o1 4 (.ld 1 false (.t 3)),o1 5 (.fa 2 (.t 1)),o1 6 (.ld 1 false (.t 5)),⟨some 7,none,.mo (.mx (.t 4) (.t 6))⟩,o1 8 (.fa 1 (.t 1)),o1 9 (.ld 1 false (.t 8)),o1 10 (.fa 3 (.t 1)),o1 11 (.ld 1 false (.t 10)),⟨some 12,none,.mo (.mx (.t 9) (.t 11))⟩,o1 13 (.bd [.n .i64 0,.n .i64 0] [(0,1,(.t 7)),(1,1,(.t 12))]),
  (o3 (.st 2 (.t 2) (.t 13)))]
abbrev rp:AF:=⟨14,(.seq (.reg yb) (.seq (.reg ya) .ret)),[.ld 2 true (.t 2)]⟩
theorem yc:ae Tryz.prog (aa Tryz.prog 135) 135=some rp:=by kernel_rfl
/-! interval.operands.hash-/
abbrev x8:List AO:=
 [o1 1 (.bx 202 0 (.t 0)),o1 2 (.al 123 [.n .i64 0,.n .i64 0])]
abbrev x7:List AO:=
 [(o2 3 73 []),
  (o3 (.st 2 (.t 2) (.t 3)))]
abbrev ro:AF:=⟨4,(.seq (.reg x8) (.seq (.reg x7) .ret)),[.ld 2 true (.t 2)]⟩
theorem x9:ae Tryz.prog (aa Tryz.prog 136) 136=some ro:=by kernel_rfl
/-! interval.shifted-/
abbrev x4:List AO:=
 [o1 4 (.al 123 [.n .i64 0,.n .i64 0])]
abbrev x3:List AO:=
 [(mt 6 0),o1 7 (.bin .geq (.t 6) (ci 0)),
  (mt 8 7),
  (o5 9 8 (.mv (.t 1))),
  (o5 10 8 (.bin .leq (.t 9) (ci 4294967295))),o1 11 (.pick (.t 8) (.t 10) (.c (.b false))),
  (mt 5 11)]
abbrev xZ:List AO:=
 [(mt 12 0),
  (mt 13 1),o1 14 (.bd [.n .i64 0,.n .i64 0] [(0,1,(.t 12)),(1,1,(.t 13))]),
  (o3 (.st 2 (.t 4) (.t 14)))]
abbrev xY:List AO:=
 [(mt 16 0),o1 17 (.bin .gtr (.t 16) (ci 4294967295)),
  (mt 15 17)]
abbrev xX:List AO:=
 [(mt 18 0),o1 19 (.bin .sub (.t 18) (ci 4294967295)),o1 20 (.bin .sub (.t 19) (ci 1)),
  (mt 21 1),o1 22 (.bin .sub (.t 21) (ci 4294967295)),o1 23 (.bin .sub (.t 22) (ci 1)),o1 24 (.bd [.n .i64 0,.n .i64 0] [(0,1,(.t 20)),(1,1,(.t 23))]),
  (o3 (.st 2 (.t 4) (.t 24)))]
abbrev xW:List AO:=
 [(mt 26 1),o1 27 (.bin .lss (.t 26) (ci 0)),
  (mt 25 27)]
abbrev xV:List AO:=
 [(mt 28 0),o1 29 (.bin .add (.t 28) (ci 4294967295)),o1 30 (.bin .add (.t 29) (ci 1)),
  (mt 31 1),o1 32 (.bin .add (.t 31) (ci 4294967295)),o1 33 (.bin .add (.t 32) (ci 1)),o1 34 (.bd [.n .i64 0,.n .i64 0] [(0,1,(.t 30)),(1,1,(.t 33))]),
  (o3 (.st 2 (.t 4) (.t 34)))]
abbrev x6:AC:=
 (.seq (.reg x3) (.cond (.t 5) (.seq (.reg xZ) .ret) (.seq (.reg xY) (.cond (.t 15) (.seq (.reg xX) .ret) (.seq (.reg xW) (.cond (.t 25) (.seq (.reg xV) .ret) .skip))))))
abbrev xU:List AO:=
 [(o2 35 73 []),
  (o3 (.st 2 (.t 4) (.t 35)))]
abbrev rn:AF:=⟨36,(.seq (.reg x4) (.seq (.block 0 x6) (.seq (.reg xU) .ret))),[.ld 2 true (.t 4)]⟩
theorem x5:ae Tryz.prog (aa Tryz.prog 138) 138=some rn:=by kernel_rfl
/-! interval.ones-/
abbrev xS:List AO:=
 [o1 2 (.mv (ci 0))]
abbrev xR:List AO:=
 [(mt 3 0),o1 4 (.cvi .u64 (.t 3)),
  (o2 5 114 [.t 4]),o1 6 (.bin .shl (ci 1) (.t 5)),o1 7 (.bin .sub (.t 6) (ci 1)),
  (mt 2 7)]
abbrev rm:AF:=⟨8,(.seq (.reg xS) (.seq (.reg xR) .ret)),[.mv (.t 2)]⟩
theorem xT:ae Tryz.prog (aa Tryz.prog 139) 139=some rm:=by kernel_rfl
/-! instruction.combinations$1-/
abbrev xP:List AO:=
 [o1 4 (.mv (.c (.n .u32 0)))]
abbrev xO:List AO:=
 [(mt 5 0),
  (mt 6 1),o1 7 (.bin .add (.t 5) (.t 6)),
  (mt 4 7)]
abbrev rl:AF:=⟨8,(.seq (.reg xP) (.seq (.reg xO) .ret)),[.mv (.t 4)]⟩
theorem xQ:ae Tryz.prog (aa Tryz.prog 140) 140=some rl:=by kernel_rfl
/-! instruction.combinations$2-/
abbrev xM:List AO:=
 [o1 4 (.mv (.c (.n .u32 0)))]
abbrev xL:List AO:=
 [(mt 5 0),
  (mt 6 1),o1 7 (.bin .sub (.t 5) (.t 6)),
  (mt 4 7)]
abbrev rk:AF:=⟨8,(.seq (.reg xM) (.seq (.reg xL) .ret)),[.mv (.t 4)]⟩
theorem xN:ae Tryz.prog (aa Tryz.prog 141) 141=some rk:=by kernel_rfl
/-! instruction.combinations$3-/
abbrev xJ:List AO:=
 [o1 4 (.mv (.c (.n .u32 0)))]
abbrev xI:List AO:=
 [(mt 5 0),
  (mt 6 1),o1 7 (.bin .mul (.t 5) (.t 6)),
  (mt 4 7)]
abbrev rj:AF:=⟨8,(.seq (.reg xJ) (.seq (.reg xI) .ret)),[.mv (.t 4)]⟩
theorem xK:ae Tryz.prog (aa Tryz.prog 142) 142=some rj:=by kernel_rfl
/-! instruction.combinations$4-/
abbrev xG:List AO:=
 [o1 4 (.mv (.c (.n .u32 0)))]
abbrev xF:List AO:=
 [(mt 5 0),
  (mt 6 1),o1 7 (.bin .quo (.t 5) (.t 6)),
  (mt 4 7)]
abbrev ri:AF:=⟨8,(.seq (.reg xG) (.seq (.reg xF) .ret)),[.mv (.t 4)]⟩
theorem xH:ae Tryz.prog (aa Tryz.prog 143) 143=some ri:=by kernel_rfl
/-! instruction.combinations$5-/
abbrev xA:List AO:=
 [o1 4 (.mv (.c (.n .u32 0)))]
abbrev xz:List AO:=
 [(mt 5 0),
  (mt 6 1),o1 7 (.bin .rem (.t 5) (.t 6)),
  (mt 4 7)]
abbrev re:AF:=⟨8,(.seq (.reg xA) (.seq (.reg xz) .ret)),[.mv (.t 4)]⟩
theorem xB:ae Tryz.prog (aa Tryz.prog 144) 144=some re:=by kernel_rfl
/-! instruction.combinations$6-/
abbrev xw:List AO:=
 [o1 4 (.mv (.c (.n .u32 0)))]
abbrev xv:List AO:=
 [(mt 5 0),
  (mt 6 1),o1 7 (.bin .and (.t 5) (.t 6)),
  (mt 4 7)]
abbrev rd:AF:=⟨8,(.seq (.reg xw) (.seq (.reg xv) .ret)),[.mv (.t 4)]⟩
theorem xy:ae Tryz.prog (aa Tryz.prog 145) 145=some rd:=by kernel_rfl
/-! instruction.combinations$7-/
abbrev xt:List AO:=
 [o1 4 (.mv (.c (.n .u32 0)))]
abbrev xr:List AO:=
 [(mt 5 0),
  (mt 6 1),o1 7 (.bin .or (.t 5) (.t 6)),
  (mt 4 7)]
abbrev rb:AF:=⟨8,(.seq (.reg xt) (.seq (.reg xr) .ret)),[.mv (.t 4)]⟩
theorem xu:ae Tryz.prog (aa Tryz.prog 146) 146=some rb:=by kernel_rfl
/-! instruction.combinations$8-/
abbrev xp:List AO:=
 [o1 4 (.mv (.c (.n .u32 0)))]
abbrev xo:List AO:=
 [(mt 5 0),
  (mt 6 1),o1 7 (.bin .xor (.t 5) (.t 6)),
  (mt 4 7)]
abbrev ra:AF:=⟨8,(.seq (.reg xp) (.seq (.reg xo) .ret)),[.mv (.t 4)]⟩
theorem xq:ae Tryz.prog (aa Tryz.prog 147) 147=some ra:=by kernel_rfl
/-! instruction.combinations$9-/
abbrev xl:List AO:=
 [o1 4 (.mv (.c (.n .u32 0)))]
abbrev xk:List AO:=
 [(mt 5 0),
  (mt 6 1),o1 7 (.bin .rem (.t 6) (.c (.n .u32 32))),o1 8 (.bin .shl (.t 5) (.t 7)),
  (mt 4 8)]
abbrev q9:AF:=⟨9,(.seq (.reg xl) (.seq (.reg xk) .ret)),[.mv (.t 4)]⟩
theorem xn:ae Tryz.prog (aa Tryz.prog 148) 148=some q9:=by kernel_rfl
/-! instruction.combinations$10-/
abbrev xi:List AO:=
 [o1 4 (.mv (.c (.n .u32 0)))]
abbrev xh:List AO:=
 [(mt 5 0),
  (mt 6 1),o1 7 (.bin .rem (.t 6) (.c (.n .u32 32))),o1 8 (.bin .shr (.t 5) (.t 7)),
  (mt 4 8)]
abbrev q8:AF:=⟨9,(.seq (.reg xi) (.seq (.reg xh) .ret)),[.mv (.t 4)]⟩
theorem xj:ae Tryz.prog (aa Tryz.prog 149) 149=some q8:=by kernel_rfl
/-! instruction.combinations$11-/
abbrev xf:List AO:=
 [o1 4 (.mv (.c (.n .u32 0)))]
abbrev xe:List AO:=
 [(mt 5 0),
  (mt 6 1),⟨some 7,none,.mo (.mi (.t 5) (.t 6))⟩,
  (mt 4 7)]
abbrev qZ:AF:=⟨8,(.seq (.reg xf) (.seq (.reg xe) .ret)),[.mv (.t 4)]⟩
theorem xg:ae Tryz.prog (aa Tryz.prog 150) 150=some qZ:=by kernel_rfl
/-! instruction.combinations$12-/
abbrev xc:List AO:=
 [o1 4 (.mv (.c (.n .u32 0)))]
abbrev xa:List AO:=
 [(mt 5 0),
  (mt 6 1),⟨some 7,none,.mo (.mx (.t 5) (.t 6))⟩,
  (mt 4 7)]
abbrev qY:AF:=⟨8,(.seq (.reg xc) (.seq (.reg xa) .ret)),[.mv (.t 4)]⟩
theorem xd:ae Tryz.prog (aa Tryz.prog 151) 151=some qY:=by kernel_rfl
/-! instruction.hash-/
abbrev w8:List AO:=
 [o1 4 (.mv (.c (.n .u32 0)))]
abbrev w7:List AO:=
 [(mt 6 0),
  (mt 7 1),o1 8 (.bin .mul (.t 7) (.c (.n .u32 2654435761))),o1 9 (.bin .xor (.t 6) (.t 8)),o1 10 (.bin .mul (.t 9) (.c (.n .u32 2246822519))),
  (mt 5 10)]
abbrev w6:List AO:=
 [(mt 11 5),
  (mt 12 5),o1 13 (.bin .shr (.t 12) (.c (.n .u64 16))),o1 14 (.bin .xor (.t 11) (.t 13)),
  (mt 4 14)]
abbrev qX:AF:=⟨15,(.seq (.reg w8) (.seq (.reg w7) (.seq (.reg w6) .ret))),[.mv (.t 4)]⟩
theorem w9:ae Tryz.prog (aa Tryz.prog 152) 152=some qX:=by kernel_rfl
/-! instruction.combinations$13-/
abbrev wZ:List AO:=
 [o1 4 (.mv (.c (.n .u32 0)))]
abbrev wY:List AO:=
 [(mt 5 0),
  (mt 6 1),o1 7 (.bin .eql (.t 5) (.t 6)),
  (o2 8 49 [.t 7]),
  (mt 4 8)]
abbrev qW:AF:=⟨9,(.seq (.reg wZ) (.seq (.reg wY) .ret)),[.mv (.t 4)]⟩
theorem w5:ae Tryz.prog (aa Tryz.prog 153) 153=some qW:=by kernel_rfl
/-! instruction.combinations$14-/
abbrev wW:List AO:=
 [o1 4 (.mv (.c (.n .u32 0)))]
abbrev wV:List AO:=
 [(mt 5 0),
  (mt 6 1),o1 7 (.bin .lss (.t 5) (.t 6)),
  (o2 8 49 [.t 7]),
  (mt 4 8)]
abbrev qU:AF:=⟨9,(.seq (.reg wW) (.seq (.reg wV) .ret)),[.mv (.t 4)]⟩
theorem wX:ae Tryz.prog (aa Tryz.prog 154) 154=some qU:=by kernel_rfl
/-! instruction.combinations$15-/
abbrev wT:List AO:=
 [o1 4 (.mv (.c (.n .u32 0)))]
abbrev wS:List AO:=
 [(mt 5 0),o1 6 (.bin .eql (.t 5) (.c (.n .u32 0))),
  (o2 7 49 [.t 6]),
  (mt 4 7)]
abbrev qT:AF:=⟨8,(.seq (.reg wT) (.seq (.reg wS) .ret)),[.mv (.t 4)]⟩
theorem wU:ae Tryz.prog (aa Tryz.prog 155) 155=some qT:=by kernel_rfl
/-! instruction.combinations$16-/
abbrev wQ:List AO:=
 [o1 4 (.mv (.c (.n .u32 0)))]
abbrev wP:List AO:=
 [(mt 5 0),o1 6 (.bin .neq (.t 5) (.c (.n .u32 0))),
  (mt 7 6),
  (o5 8 7 (.mv (.t 1))),
  (o5 9 7 (.bin .neq (.t 8) (.c (.n .u32 0)))),o1 10 (.pick (.t 7) (.t 9) (.c (.b false))),
  (o2 11 49 [.t 10]),
  (mt 4 11)]
abbrev qS:AF:=⟨12,(.seq (.reg wQ) (.seq (.reg wP) .ret)),[.mv (.t 4)]⟩
theorem wR:ae Tryz.prog (aa Tryz.prog 156) 156=some qS:=by kernel_rfl
/-! instruction.combinations$17-/
abbrev wN:List AO:=
 [o1 4 (.mv (.c (.n .u32 0)))]
abbrev wM:List AO:=
 [(mt 5 0),o1 6 (.bin .neq (.t 5) (.c (.n .u32 0))),
  (mt 7 6),
  (o4 8 7 (.mv (.t 1))),
  (o4 9 7 (.bin .neq (.t 8) (.c (.n .u32 0)))),o1 10 (.pick (.t 7) (.c (.b true)) (.t 9)),
  (o2 11 49 [.t 10]),
  (mt 4 11)]
abbrev qR:AF:=⟨12,(.seq (.reg wN) (.seq (.reg wM) .ret)),[.mv (.t 4)]⟩
theorem wO:ae Tryz.prog (aa Tryz.prog 157) 157=some qR:=by kernel_rfl
/-! instruction.combinations$18-/
abbrev wK:List AO:=
 [o1 4 (.mv (.c (.n .u32 0)))]
abbrev wJ:List AO:=
 [(mt 5 0),o1 6 (.bin .neq (.t 5) (.c (.n .u32 0))),
  (o2 7 49 [.t 6]),
  (mt 4 7)]
abbrev qQ:AF:=⟨8,(.seq (.reg wK) (.seq (.reg wJ) .ret)),[.mv (.t 4)]⟩
theorem wL:ae Tryz.prog (aa Tryz.prog 158) 158=some qQ:=by kernel_rfl
end Go.Proofs.YthehakngpbjgjaaGreat