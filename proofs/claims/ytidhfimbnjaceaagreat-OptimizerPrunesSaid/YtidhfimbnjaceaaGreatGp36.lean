/- A part of the proof of OptimizerPrunes: AcD. No condition. -/
import Derived.Test.YtidhfimbnjaceaaGreatGp10
import Derived.Test.YtidhfimbnjaceaaGreatProg
set_option linter.unusedSimpArgs false
set_option linter.unusedVariables false
set_option linter.constructorNameAsVariable false
set_option maxRecDepth 100000
set_option maxHeartbeats 4000000
namespace Go.Proofs.YtidhfimbnjaceaaGreat
open Go.RowKit
set_option linter.unusedVariables false
/-! optimizer.Prune -/
abbrev x44r0 : List AO :=
 [o1 1 (.bx 25 0 (.t 0)),o1 2 (.al 25 [.sl0, .n .i64 0, .n .i64 0, .sl0]),o1 3 (.mv (.c (.n .i64 0)))]
abbrev x44r1 : List AO :=
 [o1 4 (.ld 4 true (.t 1)),⟨some 5, none, .cl (.c (.f 24 [] [])) [(.t 4), (.c (.f 47 [] []))]⟩,o1 6 (.ext 0 (.t 5)),o1 7 (.ext 1 (.t 5)),⟨none, none, .ap (.st 4 (.t 2) (.t 6))⟩,o1 3 (.mv (.t 7))]
abbrev x44F : AF := ⟨8, (.seq (.reg x44r0) (.seq (.reg x44r1) .ret)), [.ld 4 true (.t 2), .mv (.t 3)]⟩
theorem x44ok : afOf Tryz.prog (hintsOf Tryz.prog 17) 17 = some x44F := by kernel_rfl
/-! optimizer.prune -/
abbrev x45r0 : List AO :=
 [o1 1 (.bx 25 0 (.t 0)),o1 2 (.mv (.c .sl0))]
abbrev x45r1 : List AO :=
 [o1 11 (.ld 4 true (.t 1)),⟨some 12, none, .cl (.c (.f 75 [] [])) [(.t 11)]⟩,o1 3 (.mv (.t 12))]
abbrev x45r2 : List AO :=
 [o1 4 (.mv (.c .sl0))]
abbrev x45r3 : List AO :=
 [o1 13 (.fa 3 (.t 1)),o1 14 (.ld 1 false (.t 13)),o1 15 (.len (.t 14)),o1 16 (.mv (.c (.n .i64 0)))]
abbrev x45r4 : List AO :=
 [o1 17 (.bin .lss (.t 16) (.t 15))]
abbrev x45r5 : List AO :=
 [o1 18 (.mv (.t 16)),o1 19 (.ia 5 (.t 14) (.t 16)),o1 20 (.ld 5 true (.t 19)),o1 6 (.al 37 [.n .i64 0, .n .i64 0, .n .i64 0, .n .i64 0, .n .u32 0]),o1 5 (.mv (.t 18)),⟨none, none, .ap (.st 5 (.t 6) (.t 20))⟩]
abbrev x45r6 : List AO :=
 [o1 21 (.fa 0 (.t 6)),o1 22 (.ld 1 false (.t 21)),⟨some 23, none, .cl (.c (.f 71 [] [])) [(.t 22)]⟩,o1 24 (.mv (.t 23)),⟨some 25, some (24, false), .ap (.fa 0 (.t 6))⟩,⟨some 26, some (24, false), .ap (.ld 1 false (.t 25))⟩,⟨some 27, some (24, false), .ap (.bin .eql (.t 26) (.c (.n .i64 0)))⟩,o1 28 (.pick (.t 24) (.c (.b true)) (.t 27)),o1 29 (.mv (.t 28)),⟨some 30, some (29, false), .ap (.fa 0 (.t 6))⟩,⟨some 31, some (29, false), .ap (.ld 1 false (.t 30))⟩,⟨some 32, some (29, false), .ap (.bin .eql (.t 31) (.c (.n .i64 36)))⟩,o1 33 (.pick (.t 29) (.c (.b true)) (.t 32)),o1 34 (.mv (.t 33)),⟨some 35, some (34, false), .ap (.fa 0 (.t 6))⟩,⟨some 36, some (34, false), .ap (.ld 1 false (.t 35))⟩,⟨some 37, some (34, false), .ap (.bin .eql (.t 36) (.c (.n .i64 38)))⟩,o1 38 (.pick (.t 34) (.c (.b true)) (.t 37)),o1 7 (.mv (.t 38))]
abbrev x45m7 : List (Nat × AO) :=
 [(2, (o1 39 (.mv (.t 7)))),(2, (o1 40 (.un .not (.t 39)))),(2, (o1 41 (.mv (.t 40)))),(2, ⟨some 42, some (41, false), .ap (.mv (.t 3))⟩),(2, ⟨some 43, some (41, false), .ap (.mv (.t 5))⟩),(2, ⟨some 44, some (41, false), .ap (.bin .add (.t 43) (.c (.n .i64 1)))⟩),(2, ⟨some 45, some (41, false), .ap (.ia 1 (.t 42) (.t 44))⟩),(2, ⟨some 47, some (41, false), .ap (.fa 1 (.t 6))⟩),(1, ⟨some 46, some (41, false), .ap (.ld 1 false (.t 45))⟩),(1, ⟨some 48, some (41, false), .ap (.ld 1 false (.t 47))⟩),(2, ⟨some 49, some (41, false), .ap (.ia 1 (.t 46) (.t 48))⟩),(1, ⟨some 50, some (41, false), .ap (.ld 1 false (.t 49))⟩),(2, (o1 51 (.pick (.t 41) (.c (.b true)) (.t 50))))]
abbrev x45r8 : List AO :=
 [o1 52 (.mv (.t 4)),o1 53 (.ld 5 true (.t 6)),o1 54 (.bs 37 5 1 [.n .i64 0, .n .i64 0, .n .i64 0, .n .i64 0, .n .u32 0] [(0, 5, (.t 53))]),o1 55 (.app 37 5 40 (.t 52) (.t 54)),o1 4 (.mv (.t 55))]
abbrev x45k9 : AC :=
 (.seq (.reg x45r5) (.seq (.reg x45r6) (.seq (.mix x45m7) (.cond (.t 51) (.reg x45r8) .skip))))
abbrev x45r10 : List AO :=
 [o1 56 (.bin .add (.t 16) (.c (.n .i64 1))),o1 16 (.mv (.t 56))]
abbrev x45b11 : AC :=
 (.seq (.reg x45r4) (.seq (.cond (.t 17) .skip (.exit 0)) (.seq (.block 1 x45k9) (.reg x45r10))))
abbrev x45k12 : AC :=
 (.loop x45b11)
abbrev x45r13 : List AO :=
 [o1 58 (.mv (.t 4)),⟨some 59, none, .cl (.c (.f 76 [] [])) [(.t 58)]⟩,o1 57 (.mv (.t 59)),o1 60 (.ext 0 (.t 57)),o1 61 (.ext 1 (.t 57)),o1 8 (.mv (.t 60)),o1 9 (.mv (.t 61))]
abbrev x45r14 : List AO :=
 [o1 62 (.mv (.t 9)),o1 63 (.un .not (.t 62))]
abbrev x45r15 : List AO :=
 [o1 64 (.mv (.t 4)),o1 2 (.mv (.t 64))]
abbrev x45r16 : List AO :=
 [o1 10 (.mv (.c (.n .i64 2)))]
abbrev x45r17 : List AO :=
 [o1 65 (.mv (.t 4)),o1 66 (.mv (.t 8)),o1 67 (.ia 5 (.t 65) (.t 66)),o1 68 (.fa 0 (.t 67)),o1 69 (.ld 1 false (.t 68)),o1 70 (.bin .eql (.t 69) (.c (.n .i64 28)))]
abbrev x45r18 : List AO :=
 [o1 10 (.mv (.c (.n .i64 1)))]
abbrev x45r19 : List AO :=
 [o1 71 (.mv (.t 4)),o1 72 (.mv (.t 8)),o1 73 (.mv (.t 8)),o1 74 (.mv (.t 10)),o1 75 (.bin .add (.t 73) (.t 74)),⟨some 76, none, .cl (.c (.f 77 [] [])) [(.t 71), (.t 72), (.t 75)]⟩,o1 4 (.mv (.t 76))]
abbrev x45k20 : AC :=
 (.seq (.reg x45r13) (.seq (.seq (.reg x45r14) (.cond (.t 63) (.seq (.reg x45r15) .ret) .skip)) (.seq (.reg x45r16) (.seq (.seq (.reg x45r17) (.cond (.t 70) (.reg x45r18) .skip)) (.reg x45r19)))))
abbrev x45b21 : AC :=
 (.block 3 x45k20)
abbrev x45k22 : AC :=
 (.loop x45b21)
abbrev x45F : AF := ⟨77, (.seq (.reg x45r0) (.seq (.reg x45r1) (.seq (.reg x45r2) (.seq (.seq (.reg x45r3) (.block 0 x45k12)) (.block 2 x45k22))))), [.mv (.t 2)]⟩
theorem x45ok : afOf Tryz.prog (hintsOf Tryz.prog 47) 47 = some x45F := by kernel_rfl
/-! optimizer.live -/
abbrev x46r0 : List AO :=
 [o1 1 (.bx 25 0 (.t 0)),o1 2 (.mv (.c .sl0))]
abbrev x46r1 : List AO :=
 [o1 17 (.fa 3 (.t 1)),o1 18 (.ld 1 false (.t 17)),⟨some 19, none, .cl (.c (.f 86 [] [])) [(.t 18)]⟩,o1 3 (.mv (.t 19))]
abbrev x46r2 : List AO :=
 [o1 20 (.fa 3 (.t 1)),o1 21 (.ld 1 false (.t 20)),o1 22 (.len (.t 21)),o1 23 (.bin .add (.t 22) (.c (.n .i64 1))),o1 24 (.ms 47 1 24 [.sl0] (.t 23) (.t 23)),o1 4 (.mv (.t 24))]
abbrev x46r3 : List AO :=
 [o1 25 (.mv (.t 4)),o1 26 (.len (.t 25)),o1 27 (.mv (.c (.n .i64 0)))]
abbrev x46r4 : List AO :=
 [o1 28 (.bin .lss (.t 27) (.t 26))]
abbrev x46r5 : List AO :=
 [o1 29 (.mv (.t 27)),o1 5 (.mv (.t 29))]
abbrev x46r6 : List AO :=
 [o1 30 (.mv (.t 4)),o1 31 (.mv (.t 5)),o1 32 (.fa 1 (.t 1)),o1 33 (.ld 1 false (.t 32)),o1 34 (.ms 4 1 1 [.b false] (.t 33) (.t 33)),o1 35 (.ia 1 (.t 30) (.t 31)),⟨none, none, .ap (.st 1 (.t 35) (.t 34))⟩]
abbrev x46k7 : AC :=
 (.seq (.reg x46r5) (.reg x46r6))
abbrev x46r8 : List AO :=
 [o1 36 (.bin .add (.t 27) (.c (.n .i64 1))),o1 27 (.mv (.t 36))]
abbrev x46b9 : AC :=
 (.seq (.reg x46r4) (.seq (.cond (.t 28) .skip (.exit 0)) (.seq (.block 1 x46k7) (.reg x46r8))))
abbrev x46k10 : AC :=
 (.loop x46b9)
abbrev x46r11 : List AO :=
 [o1 6 (.mv (.c (.b true)))]
abbrev x46r12 : List AO :=
 [o1 37 (.mv (.t 6))]
abbrev x46r13 : List AO :=
 [o1 6 (.mv (.c (.b false)))]
abbrev x46r14 : List AO :=
 [o1 38 (.fa 3 (.t 1)),o1 39 (.ld 1 false (.t 38)),o1 40 (.len (.t 39)),o1 41 (.bin .sub (.t 40) (.c (.n .i64 1))),o1 7 (.mv (.t 41))]
abbrev x46r15 : List AO :=
 [o1 42 (.mv (.t 7)),o1 43 (.bin .geq (.t 42) (.c (.n .i64 0)))]
abbrev x46r16 : List AO :=
 [o1 47 (.fa 3 (.t 1)),o1 48 (.ld 1 false (.t 47)),o1 49 (.mv (.t 7)),o1 50 (.ia 5 (.t 48) (.t 49)),o1 51 (.ld 5 true (.t 50)),⟨some 52, none, .cl (.c (.f 89 [] [])) [(.t 51)]⟩,o1 46 (.mv (.t 52)),o1 53 (.ext 0 (.t 46)),o1 54 (.ext 1 (.t 46)),o1 8 (.mv (.t 53)),o1 9 (.mv (.t 54))]
abbrev x46r17 : List AO :=
 [o1 55 (.mv (.t 4)),o1 56 (.mv (.t 7)),o1 57 (.ia 1 (.t 55) (.t 56)),o1 58 (.ld 1 false (.t 57)),⟨some 59, none, .cl (.c (.f 101 [] [])) [(.t 58)]⟩,o1 10 (.mv (.t 59))]
abbrev x46r18 : List AO :=
 [o1 60 (.fa 3 (.t 1)),o1 61 (.ld 1 false (.t 60)),o1 62 (.mv (.t 3)),o1 63 (.mv (.t 7)),⟨some 64, none, .cl (.c (.f 102 [] [])) [(.t 61), (.t 62), (.t 63)]⟩,o1 65 (.len (.t 64)),o1 66 (.mv (.c (.n .i64 0)))]
abbrev x46r19 : List AO :=
 [o1 67 (.bin .lss (.t 66) (.t 65))]
abbrev x46r20 : List AO :=
 [o1 68 (.ia 1 (.t 64) (.t 66)),o1 69 (.ld 1 false (.t 68)),o1 12 (.mv (.t 69))]
abbrev x46r21 : List AO :=
 [o1 70 (.mv (.t 4)),o1 71 (.mv (.t 12)),o1 72 (.ia 1 (.t 70) (.t 71)),o1 73 (.ld 1 false (.t 72)),o1 74 (.len (.t 73)),o1 75 (.mv (.c (.n .i64 0)))]
abbrev x46r22 : List AO :=
 [o1 76 (.bin .lss (.t 75) (.t 74))]
abbrev x46r23 : List AO :=
 [o1 77 (.mv (.t 75)),o1 78 (.ia 1 (.t 73) (.t 75)),o1 79 (.ld 1 false (.t 78)),o1 13 (.mv (.t 77)),o1 14 (.mv (.t 79))]
abbrev x46r24 : List AO :=
 [o1 80 (.mv (.t 10)),o1 81 (.mv (.t 13)),o1 82 (.mv (.t 10)),o1 83 (.mv (.t 13)),o1 84 (.ia 1 (.t 82) (.t 83)),o1 85 (.ld 1 false (.t 84)),o1 86 (.mv (.t 85)),⟨some 87, some (86, false), .ap (.mv (.t 14))⟩,⟨some 88, some (86, false), .ap (.mv (.t 87))⟩,⟨some 89, some (88, true), .ap (.mv (.t 13))⟩,⟨some 90, some (88, true), .ap (.mv (.t 9))⟩,⟨some 91, some (88, true), .ap (.bin .neq (.t 89) (.t 90))⟩,⟨some 92, some (86, false), .ap (.pick (.t 88) (.t 91) (.c (.b false)))⟩,o1 93 (.pick (.t 86) (.c (.b true)) (.t 92)),o1 94 (.ia 1 (.t 80) (.t 81)),⟨none, none, .ap (.st 1 (.t 94) (.t 93))⟩]
abbrev x46k25 : AC :=
 (.seq (.reg x46r23) (.reg x46r24))
abbrev x46r26 : List AO :=
 [o1 95 (.bin .add (.t 75) (.c (.n .i64 1))),o1 75 (.mv (.t 95))]
abbrev x46b27 : AC :=
 (.seq (.reg x46r22) (.seq (.cond (.t 76) .skip (.exit 8)) (.seq (.block 9 x46k25) (.reg x46r26))))
abbrev x46k28 : AC :=
 (.loop x46b27)
abbrev x46k29 : AC :=
 (.seq (.reg x46r20) (.seq (.reg x46r21) (.block 8 x46k28)))
abbrev x46r30 : List AO :=
 [o1 96 (.bin .add (.t 66) (.c (.n .i64 1))),o1 66 (.mv (.t 96))]
abbrev x46b31 : AC :=
 (.seq (.reg x46r19) (.seq (.cond (.t 67) .skip (.exit 6)) (.seq (.block 7 x46k29) (.reg x46r30))))
abbrev x46k32 : AC :=
 (.loop x46b31)
abbrev x46r33 : List AO :=
 [o1 97 (.mv (.t 8)),o1 98 (.len (.t 97)),o1 99 (.mv (.c (.n .i64 0)))]
abbrev x46r34 : List AO :=
 [o1 100 (.bin .lss (.t 99) (.t 98))]
abbrev x46r35 : List AO :=
 [o1 101 (.ia 1 (.t 97) (.t 99)),o1 102 (.ld 1 false (.t 101)),o1 16 (.mv (.t 102))]
abbrev x46r36 : List AO :=
 [o1 103 (.mv (.t 10)),o1 104 (.mv (.t 16)),o1 105 (.ia 1 (.t 103) (.t 104)),⟨none, none, .ap (.st 1 (.t 105) (.c (.b true)))⟩]
abbrev x46k37 : AC :=
 (.seq (.reg x46r35) (.reg x46r36))
abbrev x46r38 : List AO :=
 [o1 106 (.bin .add (.t 99) (.c (.n .i64 1))),o1 99 (.mv (.t 106))]
abbrev x46b39 : AC :=
 (.seq (.reg x46r34) (.seq (.cond (.t 100) .skip (.exit 10)) (.seq (.block 11 x46k37) (.reg x46r38))))
abbrev x46k40 : AC :=
 (.loop x46b39)
abbrev x46r41 : List AO :=
 [o1 107 (.mv (.t 10)),o1 108 (.mv (.t 4)),o1 109 (.mv (.t 7)),o1 110 (.ia 1 (.t 108) (.t 109)),o1 111 (.ld 1 false (.t 110)),⟨some 112, none, .cl (.c (.f 103 [] [])) [(.t 107), (.t 111)]⟩,o1 113 (.un .not (.t 112))]
abbrev x46r42 : List AO :=
 [o1 114 (.mv (.t 4)),o1 115 (.mv (.t 7)),o1 116 (.mv (.t 10)),o1 117 (.ia 1 (.t 114) (.t 115)),⟨none, none, .ap (.st 1 (.t 117) (.t 116))⟩,o1 6 (.mv (.c (.b true)))]
abbrev x46k43 : AC :=
 (.seq (.reg x46r16) (.seq (.reg x46r17) (.seq (.seq (.reg x46r18) (.block 6 x46k32)) (.seq (.seq (.reg x46r33) (.block 10 x46k40)) (.seq (.reg x46r41) (.cond (.t 113) (.reg x46r42) .skip))))))
abbrev x46r44 : List AO :=
 [o1 44 (.mv (.t 7)),o1 45 (.bin .sub (.t 44) (.c (.n .i64 1))),o1 7 (.mv (.t 45))]
abbrev x46b45 : AC :=
 (.seq (.seq (.reg x46r15) (.cond (.t 43) .skip (.exit 4))) (.seq (.block 5 x46k43) (.reg x46r44)))
abbrev x46k46 : AC :=
 (.loop x46b45)
abbrev x46k47 : AC :=
 (.seq (.reg x46r13) (.seq (.reg x46r14) (.block 4 x46k46)))
abbrev x46b48 : AC :=
 (.seq (.seq (.reg x46r12) (.cond (.t 37) .skip (.exit 2))) (.block 3 x46k47))
abbrev x46k49 : AC :=
 (.loop x46b48)
abbrev x46r50 : List AO :=
 [o1 118 (.mv (.t 4)),o1 2 (.mv (.t 118))]
abbrev x46F : AF := ⟨119, (.seq (.reg x46r0) (.seq (.reg x46r1) (.seq (.reg x46r2) (.seq (.seq (.reg x46r3) (.block 0 x46k10)) (.seq (.seq (.reg x46r11) (.block 2 x46k49)) (.seq (.reg x46r50) .ret)))))), [.mv (.t 2)]⟩
theorem x46ok : afOf Tryz.prog (hintsOf Tryz.prog 75) 75 = some x46F := by kernel_rfl
/-! optimizer.hollow -/
abbrev x47r0 : List AO :=
 [o1 2 (.mv (.c (.n .i64 0))),o1 3 (.mv (.c (.b false)))]
abbrev x47r1 : List AO :=
 [o1 4 (.mv (.c (.n .i64 0)))]
abbrev x47r2 : List AO :=
 [o1 6 (.mv (.t 4)),o1 7 (.bin .add (.t 6) (.c (.n .i64 1))),o1 8 (.mv (.t 0)),o1 9 (.len (.t 8)),o1 10 (.bin .lss (.t 7) (.t 9))]
abbrev x47r3 : List AO :=
 [o1 13 (.mv (.t 0)),o1 14 (.mv (.t 4)),o1 15 (.ia 5 (.t 13) (.t 14)),o1 16 (.fa 0 (.t 15)),o1 17 (.ld 1 false (.t 16)),o1 5 (.mv (.t 17))]
abbrev x47r4 : List AO :=
 [o1 18 (.mv (.t 0)),o1 19 (.mv (.t 4)),o1 20 (.bin .add (.t 19) (.c (.n .i64 1))),o1 21 (.ia 5 (.t 18) (.t 20)),o1 22 (.fa 0 (.t 21)),o1 23 (.ld 1 false (.t 22)),o1 24 (.bin .eql (.t 23) (.c (.n .i64 31))),o1 25 (.mv (.t 24)),⟨some 26, some (25, true), .ap (.mv (.t 5))⟩,⟨some 27, some (25, true), .ap (.bin .eql (.t 26) (.c (.n .i64 27)))⟩,⟨some 28, some (25, true), .ap (.mv (.t 27))⟩,⟨some 29, some (28, false), .ap (.mv (.t 5))⟩,⟨some 30, some (28, false), .ap (.bin .eql (.t 29) (.c (.n .i64 29)))⟩,⟨some 31, some (25, true), .ap (.pick (.t 28) (.c (.b true)) (.t 30))⟩,⟨some 32, some (25, true), .ap (.mv (.t 31))⟩,⟨some 33, some (32, false), .ap (.mv (.t 5))⟩,⟨some 34, some (32, false), .ap (.bin .eql (.t 33) (.c (.n .i64 28)))⟩,⟨some 35, some (25, true), .ap (.pick (.t 32) (.c (.b true)) (.t 34))⟩,o1 36 (.pick (.t 25) (.t 35) (.c (.b false)))]
abbrev x47r5 : List AO :=
 [o1 37 (.mv (.t 4)),o1 2 (.mv (.t 37)),o1 3 (.mv (.c (.b true)))]
abbrev x47k6 : AC :=
 (.seq (.reg x47r3) (.seq (.reg x47r4) (.cond (.t 36) (.seq (.reg x47r5) .ret) .skip)))
abbrev x47r7 : List AO :=
 [o1 11 (.mv (.t 4)),o1 12 (.bin .add (.t 11) (.c (.n .i64 1))),o1 4 (.mv (.t 12))]
abbrev x47b8 : AC :=
 (.seq (.seq (.reg x47r2) (.cond (.t 10) .skip (.exit 0))) (.seq (.block 1 x47k6) (.reg x47r7)))
abbrev x47k9 : AC :=
 (.loop x47b8)
abbrev x47r10 : List AO :=
 [o1 2 (.mv (.c (.n .i64 0))),o1 3 (.mv (.c (.b false)))]
abbrev x47F : AF := ⟨38, (.seq (.reg x47r0) (.seq (.seq (.reg x47r1) (.block 0 x47k9)) (.seq (.reg x47r10) .ret))), [.mv (.t 2), .mv (.t 3)]⟩
theorem x47ok : afOf Tryz.prog (hintsOf Tryz.prog 76) 76 = some x47F := by kernel_rfl
/-! slices.Clone[[]bool,bool] -/
abbrev x48r0 : List AO :=
 [o1 2 (.mv (.c .sl0))]
abbrev x48r1 : List AO :=
 [o1 3 (.mv (.t 0)),⟨some 4, none, .sn false (.t 3)⟩]
abbrev x48r2 : List AO :=
 [o1 2 (.mv (.c .sl0))]
abbrev x48r3 : List AO :=
 [o1 5 (.bs 4 1 0 [] []),o1 6 (.mv (.t 0)),o1 7 (.app 4 1 1 (.t 5) (.t 6)),o1 2 (.mv (.t 7))]
abbrev x48F : AF := ⟨8, (.seq (.reg x48r0) (.seq (.seq (.reg x48r1) (.cond (.t 4) (.seq (.reg x48r2) .ret) .skip)) (.seq (.reg x48r3) .ret))), [.mv (.t 2)]⟩
theorem x48ok : afOf Tryz.prog (hintsOf Tryz.prog 101) 101 = some x48F := by kernel_rfl
/-! optimizer.following -/
abbrev x49r0 : List AO :=
 [o1 6 (.mv (.c .sl0))]
abbrev x49r1 : List AO :=
 [o1 9 (.mv (.t 1)),o1 10 (.mv (.t 2)),o1 11 (.ia 1 (.t 9) (.t 10)),o1 12 (.ld 1 false (.t 11)),o1 7 (.mv (.t 12))]
abbrev x49r2 : List AO :=
 [o1 13 (.mv (.t 0)),o1 14 (.mv (.t 2)),o1 15 (.ia 5 (.t 13) (.t 14)),o1 16 (.fa 0 (.t 15)),o1 17 (.ld 1 false (.t 16)),o1 8 (.mv (.t 17))]
abbrev x49r3 : List AO :=
 [o1 19 (.mv (.t 8)),o1 20 (.bin .eql (.t 19) (.c (.n .i64 28))),o1 18 (.mv (.t 20))]
abbrev x49r4 : List AO :=
 [o1 21 (.mv (.t 7)),o1 22 (.bin .add (.t 21) (.c (.n .i64 1))),o1 23 (.bs 3 1 1 [.n .i64 0] [(0, 1, (.t 22))]),o1 6 (.mv (.t 23))]
abbrev x49r5 : List AO :=
 [o1 25 (.mv (.t 8)),o1 26 (.bin .eql (.t 25) (.c (.n .i64 27))),o1 27 (.mv (.t 26)),⟨some 28, some (27, false), .ap (.mv (.t 8))⟩,⟨some 29, some (27, false), .ap (.bin .eql (.t 28) (.c (.n .i64 29)))⟩,o1 30 (.pick (.t 27) (.c (.b true)) (.t 29)),o1 31 (.mv (.t 30)),⟨some 32, some (31, false), .ap (.mv (.t 8))⟩,⟨some 33, some (31, false), .ap (.bin .eql (.t 32) (.c (.n .i64 30)))⟩,o1 34 (.pick (.t 31) (.c (.b true)) (.t 33)),o1 35 (.mv (.t 34)),⟨some 36, some (35, false), .ap (.mv (.t 8))⟩,⟨some 37, some (35, false), .ap (.bin .eql (.t 36) (.c (.n .i64 31)))⟩,⟨some 38, some (35, false), .ap (.mv (.t 37))⟩,⟨some 39, some (38, true), .ap (.mv (.t 0))⟩,⟨some 40, some (38, true), .ap (.mv (.t 7))⟩,⟨some 41, some (38, true), .ap (.ia 5 (.t 39) (.t 40))⟩,⟨some 42, some (38, true), .ap (.fa 0 (.t 41))⟩,⟨some 43, some (38, true), .ap (.ld 1 false (.t 42))⟩,⟨some 44, some (38, true), .ap (.bin .eql (.t 43) (.c (.n .i64 29)))⟩,⟨some 45, some (35, false), .ap (.pick (.t 38) (.t 44) (.c (.b false)))⟩,o1 46 (.pick (.t 35) (.c (.b true)) (.t 45)),o1 24 (.mv (.t 46))]
abbrev x49r6 : List AO :=
 [o1 47 (.mv (.t 2)),o1 48 (.bin .add (.t 47) (.c (.n .i64 1))),o1 49 (.mv (.t 7)),o1 50 (.bin .add (.t 49) (.c (.n .i64 1))),o1 51 (.bs 3 1 2 [.n .i64 0, .n .i64 0] [(0, 1, (.t 48)), (1, 1, (.t 50))]),o1 6 (.mv (.t 51))]
abbrev x49k7 : AC :=
 (.seq (.reg x49r3) (.cond (.t 18) (.seq (.reg x49r4) .ret) (.seq (.reg x49r5) (.cond (.t 24) (.seq (.reg x49r6) .ret) .skip))))
abbrev x49r8 : List AO :=
 [o1 52 (.mv (.t 2)),o1 53 (.bin .add (.t 52) (.c (.n .i64 1))),o1 54 (.bs 3 1 1 [.n .i64 0] [(0, 1, (.t 53))]),o1 6 (.mv (.t 54))]
abbrev x49F : AF := ⟨55, (.seq (.reg x49r0) (.seq (.reg x49r1) (.seq (.seq (.reg x49r2) (.block 0 x49k7)) (.seq (.reg x49r8) .ret)))), [.mv (.t 6)]⟩
theorem x49ok : afOf Tryz.prog (hintsOf Tryz.prog 102) 102 = some x49F := by kernel_rfl
/-! slices.Equal[[]bool,bool] -/
abbrev x50r0 : List AO :=
 [o1 4 (.mv (.c (.b false)))]
abbrev x50r1 : List AO :=
 [o1 6 (.mv (.t 0)),o1 7 (.len (.t 6)),o1 8 (.mv (.t 1)),o1 9 (.len (.t 8)),o1 10 (.bin .neq (.t 7) (.t 9))]
abbrev x50r2 : List AO :=
 [o1 4 (.mv (.c (.b false)))]
abbrev x50r3 : List AO :=
 [o1 11 (.mv (.t 0)),o1 12 (.len (.t 11)),o1 13 (.mv (.c (.n .i64 0)))]
abbrev x50r4 : List AO :=
 [o1 14 (.bin .lss (.t 13) (.t 12))]
abbrev x50r5 : List AO :=
 [o1 15 (.mv (.t 13)),o1 5 (.mv (.t 15))]
abbrev x50m6 : List (Nat × AO) :=
 [(2, (o1 16 (.mv (.t 0)))),(2, (o1 17 (.mv (.t 5)))),(2, (o1 18 (.ia 1 (.t 16) (.t 17)))),(2, (o1 20 (.mv (.t 1)))),(2, (o1 21 (.mv (.t 5)))),(2, (o1 22 (.ia 1 (.t 20) (.t 21)))),(1, (o1 19 (.ld 1 false (.t 18)))),(1, (o1 23 (.ld 1 false (.t 22)))),(2, (o1 24 (.eq true .b (.t 19) (.t 23))))]
abbrev x50r7 : List AO :=
 [o1 4 (.mv (.c (.b false)))]
abbrev x50k8 : AC :=
 (.seq (.reg x50r5) (.seq (.mix x50m6) (.cond (.t 24) (.seq (.reg x50r7) .ret) .skip)))
abbrev x50r9 : List AO :=
 [o1 25 (.bin .add (.t 13) (.c (.n .i64 1))),o1 13 (.mv (.t 25))]
abbrev x50b10 : AC :=
 (.seq (.reg x50r4) (.seq (.cond (.t 14) .skip (.exit 0)) (.seq (.block 1 x50k8) (.reg x50r9))))
abbrev x50k11 : AC :=
 (.loop x50b10)
abbrev x50r12 : List AO :=
 [o1 4 (.mv (.c (.b true)))]
abbrev x50F : AF := ⟨26, (.seq (.reg x50r0) (.seq (.seq (.reg x50r1) (.cond (.t 10) (.seq (.reg x50r2) .ret) .skip)) (.seq (.seq (.reg x50r3) (.block 0 x50k11)) (.seq (.reg x50r12) .ret)))), [.mv (.t 4)]⟩
theorem x50ok : afOf Tryz.prog (hintsOf Tryz.prog 103) 103 = some x50F := by kernel_rfl
/-! compactorref24.Prune -/
abbrev x51r0 : List AO :=
 [o1 1 (.bx 25 0 (.t 0)),o1 2 (.al 25 [.sl0, .n .i64 0, .n .i64 0, .sl0]),o1 3 (.mv (.c (.n .i64 0)))]
abbrev x51r1 : List AO :=
 [o1 12 (.ld 4 true (.t 1)),⟨some 13, none, .cl (.c (.f 26 [] [])) [(.t 12)]⟩,o1 11 (.mv (.t 13)),o1 14 (.ext 0 (.t 11)),o1 15 (.ext 1 (.t 11)),o1 4 (.mv (.t 14)),o1 5 (.mv (.t 15))]
abbrev x51r2 : List AO :=
 [o1 16 (.mv (.t 5)),o1 17 (.bin .neq (.t 16) (.c (.n .i64 0)))]
abbrev x51r3 : List AO :=
 [o1 18 (.bd [.sl0, .n .i64 0, .n .i64 0, .sl0] []),o1 19 (.mv (.t 5)),⟨none, none, .ap (.st 4 (.t 2) (.t 18))⟩,o1 3 (.mv (.t 19))]
abbrev x51r4 : List AO :=
 [o1 20 (.ld 4 true (.t 1)),⟨some 21, none, .cl (.c (.f 48 [] [])) [(.t 20)]⟩,o1 6 (.mv (.t 21))]
abbrev x51r5 : List AO :=
 [o1 22 (.ld 4 true (.t 1)),⟨some 23, none, .cl (.c (.f 28 [] [])) [(.t 22)]⟩,o1 7 (.al 25 [.sl0, .n .i64 0, .n .i64 0, .sl0]),⟨none, none, .ap (.st 4 (.t 7) (.t 23))⟩]
abbrev x51r6 : List AO :=
 [o1 24 (.fa 3 (.t 7)),⟨none, none, .ap (.st 1 (.t 24) (.c .sl0))⟩]
abbrev x51r7 : List AO :=
 [o1 8 (.mv (.c (.n .i64 0)))]
abbrev x51r8 : List AO :=
 [o1 25 (.mv (.t 8)),o1 26 (.fa 3 (.t 1)),o1 27 (.ld 1 false (.t 26)),o1 28 (.len (.t 27)),o1 29 (.bin .lss (.t 25) (.t 28))]
abbrev x51r9 : List AO :=
 [o1 32 (.fa 3 (.t 1)),o1 33 (.ld 1 false (.t 32)),o1 34 (.mv (.t 8)),o1 35 (.ia 5 (.t 33) (.t 34)),o1 36 (.ld 5 true (.t 35)),o1 9 (.al 37 [.n .i64 0, .n .i64 0, .n .i64 0, .n .i64 0, .n .u32 0]),⟨none, none, .ap (.st 5 (.t 9) (.t 36))⟩]
abbrev x51m10 : List (Nat × AO) :=
 [(2, (o1 37 (.fa 0 (.t 9)))),(1, (o1 38 (.ld 1 false (.t 37)))),(0, ⟨some 39, none, .cl (.c (.f 49 [] [])) [(.t 38)]⟩),(2, (o1 40 (.un .not (.t 39)))),(2, (o1 41 (.mv (.t 40)))),(2, ⟨some 42, some (41, false), .ap (.mv (.t 6))⟩),(2, ⟨some 43, some (41, false), .ap (.mv (.t 8))⟩),(2, ⟨some 44, some (41, false), .ap (.bin .add (.t 43) (.c (.n .i64 1)))⟩),(2, ⟨some 45, some (41, false), .ap (.ia 1 (.t 42) (.t 44))⟩),(2, ⟨some 47, some (41, false), .ap (.fa 1 (.t 9))⟩),(1, ⟨some 46, some (41, false), .ap (.ld 1 false (.t 45))⟩),(1, ⟨some 48, some (41, false), .ap (.ld 1 false (.t 47))⟩),(2, ⟨some 49, some (41, false), .ap (.ia 1 (.t 46) (.t 48))⟩),(1, ⟨some 50, some (41, false), .ap (.ld 1 false (.t 49))⟩),(2, (o1 51 (.pick (.t 41) (.c (.b true)) (.t 50))))]
abbrev x51r11 : List AO :=
 [o1 52 (.fa 3 (.t 7)),o1 53 (.ld 1 false (.t 52)),o1 54 (.ld 5 true (.t 9)),o1 55 (.bs 37 5 1 [.n .i64 0, .n .i64 0, .n .i64 0, .n .i64 0, .n .u32 0] [(0, 5, (.t 54))]),o1 56 (.app 37 5 40 (.t 53) (.t 55)),o1 57 (.fa 3 (.t 7)),⟨none, none, .ap (.st 1 (.t 57) (.t 56))⟩]
abbrev x51k12 : AC :=
 (.seq (.reg x51r9) (.seq (.mix x51m10) (.cond (.t 51) (.reg x51r11) .skip)))
abbrev x51r13 : List AO :=
 [o1 30 (.mv (.t 8)),o1 31 (.bin .add (.t 30) (.c (.n .i64 1))),o1 8 (.mv (.t 31))]
abbrev x51b14 : AC :=
 (.seq (.seq (.reg x51r8) (.cond (.t 29) .skip (.exit 0))) (.seq (.block 1 x51k12) (.reg x51r13)))
abbrev x51k15 : AC :=
 (.loop x51b14)
abbrev x51r16 : List AO :=
 [o1 10 (.mv (.c (.b true)))]
abbrev x51r17 : List AO :=
 [o1 58 (.mv (.t 10))]
abbrev x51r18 : List AO :=
 [o1 60 (.fa 3 (.t 7)),o1 61 (.ld 1 false (.t 60)),⟨some 62, none, .cl (.c (.f 50 [] [])) [(.t 61)]⟩,o1 59 (.mv (.t 62)),o1 63 (.ext 0 (.t 59)),o1 64 (.ext 1 (.t 59)),o1 65 (.fa 3 (.t 7)),⟨none, none, .ap (.st 1 (.t 65) (.t 63))⟩,o1 10 (.mv (.t 64))]
abbrev x51k19 : AC :=
 (.reg x51r18)
abbrev x51b20 : AC :=
 (.seq (.seq (.reg x51r17) (.cond (.t 58) .skip (.exit 2))) (.block 3 x51k19))
abbrev x51k21 : AC :=
 (.loop x51b20)
abbrev x51r22 : List AO :=
 [o1 66 (.ld 4 true (.t 7)),⟨none, none, .ap (.st 4 (.t 2) (.t 66))⟩,o1 3 (.mv (.c (.n .i64 0)))]
abbrev x51F : AF := ⟨67, (.seq (.reg x51r0) (.seq (.seq (.reg x51r1) (.seq (.reg x51r2) (.cond (.t 17) (.seq (.reg x51r3) .ret) .skip))) (.seq (.reg x51r4) (.seq (.reg x51r5) (.seq (.reg x51r6) (.seq (.seq (.reg x51r7) (.block 0 x51k15)) (.seq (.reg x51r16) (.seq (.block 2 x51k21) (.seq (.reg x51r22) .ret))))))))), [.ld 4 true (.t 2), .mv (.t 3)]⟩
theorem x51ok : afOf Tryz.prog (hintsOf Tryz.prog 18) 18 = some x51F := by kernel_rfl
/-! compactorref24.live -/
abbrev x52r0 : List AO :=
 [o1 1 (.bx 25 0 (.t 0)),o1 2 (.mv (.c .sl0))]
abbrev x52r1 : List AO :=
 [o1 20 (.fa 3 (.t 1)),o1 21 (.ld 1 false (.t 20)),⟨some 22, none, .cl (.c (.f 27 [] [])) [(.t 21)]⟩,o1 19 (.mv (.t 22)),o1 23 (.ext 0 (.t 19)),o1 24 (.ext 1 (.t 19)),o1 25 (.ext 2 (.t 19)),o1 3 (.mv (.t 23)),o1 4 (.mv (.t 24)),o1 5 (.mv (.t 25))]
abbrev x52r2 : List AO :=
 [o1 26 (.fa 3 (.t 1)),o1 27 (.ld 1 false (.t 26)),o1 28 (.len (.t 27)),o1 6 (.mv (.t 28))]
abbrev x52r3 : List AO :=
 [o1 29 (.mv (.t 6)),o1 30 (.bin .add (.t 29) (.c (.n .i64 1))),o1 31 (.ms 47 1 24 [.sl0] (.t 30) (.t 30)),o1 7 (.mv (.t 31))]
abbrev x52r4 : List AO :=
 [o1 8 (.mv (.c (.n .i64 0)))]
abbrev x52r5 : List AO :=
 [o1 32 (.mv (.t 8)),o1 33 (.mv (.t 6)),o1 34 (.bin .leq (.t 32) (.t 33))]
abbrev x52r6 : List AO :=
 [o1 37 (.mv (.t 7)),o1 38 (.mv (.t 8)),o1 39 (.fa 1 (.t 1)),o1 40 (.ld 1 false (.t 39)),o1 41 (.ms 4 1 1 [.b false] (.t 40) (.t 40)),o1 42 (.ia 1 (.t 37) (.t 38)),⟨none, none, .ap (.st 1 (.t 42) (.t 41))⟩]
abbrev x52k7 : AC :=
 (.reg x52r6)
abbrev x52r8 : List AO :=
 [o1 35 (.mv (.t 8)),o1 36 (.bin .add (.t 35) (.c (.n .i64 1))),o1 8 (.mv (.t 36))]
abbrev x52b9 : AC :=
 (.seq (.seq (.reg x52r5) (.cond (.t 34) .skip (.exit 0))) (.seq (.block 1 x52k7) (.reg x52r8)))
abbrev x52k10 : AC :=
 (.loop x52b9)
abbrev x52r11 : List AO :=
 [o1 9 (.mv (.c (.b true)))]
abbrev x52r12 : List AO :=
 [o1 43 (.mv (.t 9))]
abbrev x52r13 : List AO :=
 [o1 9 (.mv (.c (.b false)))]
abbrev x52r14 : List AO :=
 [o1 44 (.mv (.t 6)),o1 45 (.bin .sub (.t 44) (.c (.n .i64 1))),o1 10 (.mv (.t 45))]
abbrev x52r15 : List AO :=
 [o1 46 (.mv (.t 10)),o1 47 (.bin .geq (.t 46) (.c (.n .i64 0)))]
abbrev x52r16 : List AO :=
 [o1 51 (.fa 3 (.t 1)),o1 52 (.ld 1 false (.t 51)),o1 53 (.mv (.t 10)),o1 54 (.ia 5 (.t 52) (.t 53)),o1 55 (.ld 5 true (.t 54)),⟨some 56, none, .cl (.c (.f 34 [] [])) [(.t 55)]⟩,o1 50 (.mv (.t 56)),o1 57 (.ext 0 (.t 50)),o1 58 (.ext 1 (.t 50)),o1 11 (.mv (.t 57)),o1 12 (.mv (.t 58))]
abbrev x52r17 : List AO :=
 [o1 59 (.fa 1 (.t 1)),o1 60 (.ld 1 false (.t 59)),o1 61 (.ms 4 1 1 [.b false] (.t 60) (.t 60)),o1 13 (.mv (.t 61))]
abbrev x52r18 : List AO :=
 [o1 62 (.fa 3 (.t 1)),o1 63 (.ld 1 false (.t 62)),o1 64 (.mv (.t 3)),o1 65 (.mv (.t 10)),⟨some 66, none, .cl (.c (.f 78 [] [])) [(.t 63), (.t 64), (.t 65)]⟩,o1 14 (.mv (.t 66))]
abbrev x52r19 : List AO :=
 [o1 15 (.mv (.c (.n .i64 0)))]
abbrev x52r20 : List AO :=
 [o1 67 (.mv (.t 15)),o1 68 (.mv (.t 14)),o1 69 (.len (.t 68)),o1 70 (.bin .lss (.t 67) (.t 69))]
abbrev x52r21 : List AO :=
 [o1 16 (.mv (.c (.n .i64 0)))]
abbrev x52r22 : List AO :=
 [o1 73 (.mv (.t 16)),o1 74 (.fa 1 (.t 1)),o1 75 (.ld 1 false (.t 74)),o1 76 (.bin .lss (.t 73) (.t 75))]
abbrev x52r23 : List AO :=
 [o1 79 (.mv (.t 13)),o1 80 (.mv (.t 16)),o1 81 (.mv (.t 13)),o1 82 (.mv (.t 16)),o1 83 (.ia 1 (.t 81) (.t 82)),o1 84 (.ld 1 false (.t 83)),o1 85 (.mv (.t 84)),⟨some 86, some (85, false), .ap (.mv (.t 16))⟩,⟨some 87, some (85, false), .ap (.mv (.t 12))⟩,⟨some 88, some (85, false), .ap (.bin .neq (.t 86) (.t 87))⟩,⟨some 89, some (85, false), .ap (.mv (.t 88))⟩,⟨some 90, some (89, true), .ap (.mv (.t 7))⟩,⟨some 91, some (89, true), .ap (.mv (.t 14))⟩,⟨some 92, some (89, true), .ap (.mv (.t 15))⟩,⟨some 93, some (89, true), .ap (.ia 1 (.t 91) (.t 92))⟩,⟨some 94, some (89, true), .ap (.ld 1 false (.t 93))⟩,⟨some 95, some (89, true), .ap (.ia 1 (.t 90) (.t 94))⟩,⟨some 96, some (89, true), .ap (.ld 1 false (.t 95))⟩,⟨some 97, some (89, true), .ap (.mv (.t 16))⟩,⟨some 98, some (89, true), .ap (.ia 1 (.t 96) (.t 97))⟩,⟨some 99, some (89, true), .ap (.ld 1 false (.t 98))⟩,⟨some 100, some (85, false), .ap (.pick (.t 89) (.t 99) (.c (.b false)))⟩,o1 101 (.pick (.t 85) (.c (.b true)) (.t 100)),o1 102 (.ia 1 (.t 79) (.t 80)),⟨none, none, .ap (.st 1 (.t 102) (.t 101))⟩]
abbrev x52k24 : AC :=
 (.reg x52r23)
abbrev x52r25 : List AO :=
 [o1 77 (.mv (.t 16)),o1 78 (.bin .add (.t 77) (.c (.n .i64 1))),o1 16 (.mv (.t 78))]
abbrev x52b26 : AC :=
 (.seq (.seq (.reg x52r22) (.cond (.t 76) .skip (.exit 8))) (.seq (.block 9 x52k24) (.reg x52r25)))
abbrev x52k27 : AC :=
 (.loop x52b26)
abbrev x52k28 : AC :=
 (.seq (.reg x52r21) (.block 8 x52k27))
abbrev x52r29 : List AO :=
 [o1 71 (.mv (.t 15)),o1 72 (.bin .add (.t 71) (.c (.n .i64 1))),o1 15 (.mv (.t 72))]
abbrev x52b30 : AC :=
 (.seq (.seq (.reg x52r20) (.cond (.t 70) .skip (.exit 6))) (.seq (.block 7 x52k28) (.reg x52r29)))
abbrev x52k31 : AC :=
 (.loop x52b30)
abbrev x52r32 : List AO :=
 [o1 17 (.mv (.c (.n .i64 0)))]
abbrev x52r33 : List AO :=
 [o1 103 (.mv (.t 17)),o1 104 (.mv (.t 11)),o1 105 (.len (.t 104)),o1 106 (.bin .lss (.t 103) (.t 105))]
abbrev x52r34 : List AO :=
 [o1 109 (.mv (.t 13)),o1 110 (.mv (.t 11)),o1 111 (.mv (.t 17)),o1 112 (.ia 1 (.t 110) (.t 111)),o1 113 (.ld 1 false (.t 112)),o1 114 (.ia 1 (.t 109) (.t 113)),⟨none, none, .ap (.st 1 (.t 114) (.c (.b true)))⟩]
abbrev x52k35 : AC :=
 (.reg x52r34)
abbrev x52r36 : List AO :=
 [o1 107 (.mv (.t 17)),o1 108 (.bin .add (.t 107) (.c (.n .i64 1))),o1 17 (.mv (.t 108))]
abbrev x52b37 : AC :=
 (.seq (.seq (.reg x52r33) (.cond (.t 106) .skip (.exit 10))) (.seq (.block 11 x52k35) (.reg x52r36)))
abbrev x52k38 : AC :=
 (.loop x52b37)
abbrev x52r39 : List AO :=
 [o1 18 (.mv (.c (.n .i64 0)))]
abbrev x52r40 : List AO :=
 [o1 115 (.mv (.t 18)),o1 116 (.fa 1 (.t 1)),o1 117 (.ld 1 false (.t 116)),o1 118 (.bin .lss (.t 115) (.t 117))]
abbrev x52m41 : List (Nat × AO) :=
 [(2, (o1 121 (.mv (.t 9)))),(2, (o1 122 (.mv (.t 121)))),(2, ⟨some 123, some (122, false), .ap (.mv (.t 13))⟩),(2, ⟨some 124, some (122, false), .ap (.mv (.t 18))⟩),(2, ⟨some 125, some (122, false), .ap (.ia 1 (.t 123) (.t 124))⟩),(2, ⟨some 127, some (122, false), .ap (.mv (.t 7))⟩),(2, ⟨some 128, some (122, false), .ap (.mv (.t 10))⟩),(2, ⟨some 129, some (122, false), .ap (.ia 1 (.t 127) (.t 128))⟩),(2, ⟨some 131, some (122, false), .ap (.mv (.t 18))⟩),(1, ⟨some 126, some (122, false), .ap (.ld 1 false (.t 125))⟩),(1, ⟨some 130, some (122, false), .ap (.ld 1 false (.t 129))⟩),(2, ⟨some 132, some (122, false), .ap (.ia 1 (.t 130) (.t 131))⟩),(1, ⟨some 133, some (122, false), .ap (.ld 1 false (.t 132))⟩),(2, ⟨some 134, some (122, false), .ap (.eq true .b (.t 126) (.t 133))⟩),(2, (o1 135 (.pick (.t 122) (.c (.b true)) (.t 134)))),(2, (o1 9 (.mv (.t 135))))]
abbrev x52k42 : AC :=
 (.mix x52m41)
abbrev x52r43 : List AO :=
 [o1 119 (.mv (.t 18)),o1 120 (.bin .add (.t 119) (.c (.n .i64 1))),o1 18 (.mv (.t 120))]
abbrev x52b44 : AC :=
 (.seq (.seq (.reg x52r40) (.cond (.t 118) .skip (.exit 12))) (.seq (.block 13 x52k42) (.reg x52r43)))
abbrev x52k45 : AC :=
 (.loop x52b44)
abbrev x52r46 : List AO :=
 [o1 136 (.mv (.t 7)),o1 137 (.mv (.t 10)),o1 138 (.mv (.t 13)),o1 139 (.ia 1 (.t 136) (.t 137)),⟨none, none, .ap (.st 1 (.t 139) (.t 138))⟩]
abbrev x52k47 : AC :=
 (.seq (.reg x52r16) (.seq (.reg x52r17) (.seq (.reg x52r18) (.seq (.seq (.reg x52r19) (.block 6 x52k31)) (.seq (.seq (.reg x52r32) (.block 10 x52k38)) (.seq (.seq (.reg x52r39) (.block 12 x52k45)) (.reg x52r46)))))))
abbrev x52r48 : List AO :=
 [o1 48 (.mv (.t 10)),o1 49 (.bin .sub (.t 48) (.c (.n .i64 1))),o1 10 (.mv (.t 49))]
abbrev x52b49 : AC :=
 (.seq (.seq (.reg x52r15) (.cond (.t 47) .skip (.exit 4))) (.seq (.block 5 x52k47) (.reg x52r48)))
abbrev x52k50 : AC :=
 (.loop x52b49)
abbrev x52k51 : AC :=
 (.seq (.reg x52r13) (.seq (.reg x52r14) (.block 4 x52k50)))
abbrev x52b52 : AC :=
 (.seq (.seq (.reg x52r12) (.cond (.t 43) .skip (.exit 2))) (.block 3 x52k51))
abbrev x52k53 : AC :=
 (.loop x52b52)
abbrev x52r54 : List AO :=
 [o1 140 (.mv (.t 7)),o1 2 (.mv (.t 140))]
abbrev x52F : AF := ⟨141, (.seq (.reg x52r0) (.seq (.reg x52r1) (.seq (.reg x52r2) (.seq (.reg x52r3) (.seq (.seq (.reg x52r4) (.block 0 x52k10)) (.seq (.reg x52r11) (.seq (.block 2 x52k53) (.seq (.reg x52r54) .ret)))))))), [.mv (.t 2)]⟩
theorem x52ok : afOf Tryz.prog (hintsOf Tryz.prog 48) 48 = some x52F := by kernel_rfl
/-! compactorref24.idle -/
abbrev x53r0 : List AO :=
 [o1 2 (.mv (.c (.b false)))]
abbrev x53r1 : List AO :=
 [o1 3 (.mv (.t 0)),⟨some 4, none, .cl (.c (.f 45 [] [])) [(.t 3)]⟩,o1 5 (.mv (.t 4)),⟨some 6, some (5, false), .ap (.mv (.t 0))⟩,⟨some 7, some (5, false), .ap (.bin .eql (.t 6) (.c (.n .i64 0)))⟩,o1 8 (.pick (.t 5) (.c (.b true)) (.t 7)),o1 9 (.mv (.t 8)),⟨some 10, some (9, false), .ap (.mv (.t 0))⟩,⟨some 11, some (9, false), .ap (.bin .eql (.t 10) (.c (.n .i64 36)))⟩,o1 12 (.pick (.t 9) (.c (.b true)) (.t 11)),o1 13 (.mv (.t 12)),⟨some 14, some (13, false), .ap (.mv (.t 0))⟩,⟨some 15, some (13, false), .ap (.bin .eql (.t 14) (.c (.n .i64 38)))⟩,o1 16 (.pick (.t 13) (.c (.b true)) (.t 15)),o1 2 (.mv (.t 16))]
abbrev x53F : AF := ⟨17, (.seq (.reg x53r0) (.seq (.reg x53r1) .ret)), [.mv (.t 2)]⟩
theorem x53ok : afOf Tryz.prog (hintsOf Tryz.prog 49) 49 = some x53F := by kernel_rfl
/-! compactorref24.empty -/
abbrev x54r0 : List AO :=
 [o1 2 (.mv (.c .sl0)),o1 3 (.mv (.c (.b false)))]
abbrev x54r1 : List AO :=
 [o1 4 (.mv (.c (.n .i64 0)))]
abbrev x54r2 : List AO :=
 [o1 6 (.mv (.t 4)),o1 7 (.bin .add (.t 6) (.c (.n .i64 1))),o1 8 (.mv (.t 0)),o1 9 (.len (.t 8)),o1 10 (.bin .lss (.t 7) (.t 9))]
abbrev x54r3 : List AO :=
 [o1 13 (.mv (.t 0)),o1 14 (.mv (.t 4)),o1 15 (.bin .add (.t 14) (.c (.n .i64 1))),o1 16 (.ia 5 (.t 13) (.t 15)),o1 17 (.fa 0 (.t 16)),o1 18 (.ld 1 false (.t 17)),o1 19 (.bin .neq (.t 18) (.c (.n .i64 31)))]
abbrev x54r4 : List AO :=
 [o1 5 (.mv (.c .sl0))]
abbrev x54r5 : List AO :=
 [o1 20 (.mv (.t 0)),o1 21 (.mv (.t 4)),o1 22 (.ia 5 (.t 20) (.t 21)),o1 23 (.fa 0 (.t 22)),o1 24 (.ld 1 false (.t 23))]
abbrev x54r6 : List AO :=
 [o1 26 (.bin .eql (.t 24) (.c (.n .i64 27))),o1 25 (.mv (.t 26))]
abbrev x54r7 : List AO :=
 [o1 27 (.bin .eql (.t 24) (.c (.n .i64 29))),o1 25 (.mv (.t 27))]
abbrev x54m8 : List (Nat × AO) :=
 [(2, (o1 28 (.mv (.t 5)))),(2, (o1 29 (.mv (.t 0)))),(2, (o1 30 (.mv (.t 4)))),(2, (o1 31 (.sl 5 (.t 29) none (some (.t 30))))),(2, (o1 33 (.mv (.t 0)))),(2, (o1 34 (.mv (.t 4)))),(2, (o1 35 (.bin .add (.t 34) (.c (.n .i64 2))))),(2, (o1 36 (.sl 5 (.t 33) (some (.t 35)) none))),(3, (o1 32 (.app 37 5 40 (.t 28) (.t 31)))),(3, (o1 37 (.app 37 5 40 (.t 32) (.t 36)))),(2, (o1 2 (.mv (.t 37)))),(2, (o1 3 (.mv (.c (.b true)))))]
abbrev x54r9 : List AO :=
 [o1 39 (.bin .eql (.t 24) (.c (.n .i64 28))),o1 38 (.mv (.t 39))]
abbrev x54m10 : List (Nat × AO) :=
 [(2, (o1 40 (.mv (.t 5)))),(2, (o1 41 (.mv (.t 0)))),(2, (o1 42 (.mv (.t 4)))),(2, (o1 43 (.sl 5 (.t 41) none (some (.t 42))))),(2, (o1 45 (.mv (.t 0)))),(2, (o1 46 (.mv (.t 4)))),(2, (o1 47 (.bin .add (.t 46) (.c (.n .i64 1))))),(2, (o1 48 (.sl 5 (.t 45) (some (.t 47)) none))),(3, (o1 44 (.app 37 5 40 (.t 40) (.t 43)))),(3, (o1 49 (.app 37 5 40 (.t 44) (.t 48)))),(2, (o1 2 (.mv (.t 49)))),(2, (o1 3 (.mv (.c (.b true)))))]
abbrev x54k11 : AC :=
 (.seq (.seq (.reg x54r6) (.cond (.t 25) .skip (.reg x54r7))) (.cond (.t 25) (.seq (.mix x54m8) .ret) (.seq (.reg x54r9) (.cond (.t 38) (.seq (.mix x54m10) .ret) .skip))))
abbrev x54k12 : AC :=
 (.seq (.seq (.reg x54r3) (.cond (.t 19) (.exit 1) .skip)) (.seq (.reg x54r4) (.seq (.reg x54r5) (.block 2 x54k11))))
abbrev x54r13 : List AO :=
 [o1 11 (.mv (.t 4)),o1 12 (.bin .add (.t 11) (.c (.n .i64 1))),o1 4 (.mv (.t 12))]
abbrev x54b14 : AC :=
 (.seq (.seq (.reg x54r2) (.cond (.t 10) .skip (.exit 0))) (.seq (.block 1 x54k12) (.reg x54r13)))
abbrev x54k15 : AC :=
 (.loop x54b14)
abbrev x54r16 : List AO :=
 [o1 50 (.mv (.t 0)),o1 2 (.mv (.t 50)),o1 3 (.mv (.c (.b false)))]
abbrev x54F : AF := ⟨51, (.seq (.reg x54r0) (.seq (.seq (.reg x54r1) (.block 0 x54k15)) (.seq (.reg x54r16) .ret))), [.mv (.t 2), .mv (.t 3)]⟩
theorem x54ok : afOf Tryz.prog (hintsOf Tryz.prog 50) 50 = some x54F := by kernel_rfl
/-! compactorref24.successors -/
abbrev x55r0 : List AO :=
 [o1 6 (.mv (.c .sl0))]
abbrev x55r1 : List AO :=
 [o1 8 (.mv (.t 1)),o1 9 (.mv (.t 2)),o1 10 (.ia 1 (.t 8) (.t 9)),o1 11 (.ld 1 false (.t 10)),o1 7 (.mv (.t 11))]
abbrev x55r2 : List AO :=
 [o1 12 (.mv (.t 0)),o1 13 (.mv (.t 2)),o1 14 (.ia 5 (.t 12) (.t 13)),o1 15 (.fa 0 (.t 14)),o1 16 (.ld 1 false (.t 15))]
abbrev x55r3 : List AO :=
 [o1 18 (.bin .eql (.t 16) (.c (.n .i64 27))),o1 17 (.mv (.t 18))]
abbrev x55r4 : List AO :=
 [o1 19 (.bin .eql (.t 16) (.c (.n .i64 29))),o1 17 (.mv (.t 19))]
abbrev x55r5 : List AO :=
 [o1 20 (.bin .eql (.t 16) (.c (.n .i64 30))),o1 17 (.mv (.t 20))]
abbrev x55r6 : List AO :=
 [o1 21 (.mv (.t 2)),o1 22 (.bin .add (.t 21) (.c (.n .i64 1))),o1 23 (.mv (.t 7)),o1 24 (.bin .add (.t 23) (.c (.n .i64 1))),o1 25 (.bs 3 1 2 [.n .i64 0, .n .i64 0] [(0, 1, (.t 22)), (1, 1, (.t 24))]),o1 6 (.mv (.t 25))]
abbrev x55r7 : List AO :=
 [o1 27 (.bin .eql (.t 16) (.c (.n .i64 28))),o1 26 (.mv (.t 27))]
abbrev x55r8 : List AO :=
 [o1 28 (.mv (.t 7)),o1 29 (.bin .add (.t 28) (.c (.n .i64 1))),o1 30 (.bs 3 1 1 [.n .i64 0] [(0, 1, (.t 29))]),o1 6 (.mv (.t 30))]
abbrev x55r9 : List AO :=
 [o1 32 (.bin .eql (.t 16) (.c (.n .i64 31))),o1 31 (.mv (.t 32))]
abbrev x55r10 : List AO :=
 [o1 33 (.mv (.t 0)),o1 34 (.mv (.t 7)),o1 35 (.ia 5 (.t 33) (.t 34)),o1 36 (.fa 0 (.t 35)),o1 37 (.ld 1 false (.t 36)),o1 38 (.bin .eql (.t 37) (.c (.n .i64 29)))]
abbrev x55r11 : List AO :=
 [o1 39 (.mv (.t 2)),o1 40 (.bin .add (.t 39) (.c (.n .i64 1))),o1 41 (.mv (.t 7)),o1 42 (.bin .add (.t 41) (.c (.n .i64 1))),o1 43 (.bs 3 1 2 [.n .i64 0, .n .i64 0] [(0, 1, (.t 40)), (1, 1, (.t 42))]),o1 6 (.mv (.t 43))]
abbrev x55k12 : AC :=
 (.seq (.seq (.reg x55r3) (.cond (.t 17) .skip (.seq (.reg x55r4) (.cond (.t 17) .skip (.reg x55r5))))) (.cond (.t 17) (.seq (.reg x55r6) .ret) (.seq (.reg x55r7) (.cond (.t 26) (.seq (.reg x55r8) .ret) (.seq (.reg x55r9) (.cond (.t 31) (.seq (.reg x55r10) (.cond (.t 38) (.seq (.reg x55r11) .ret) .skip)) .skip))))))
abbrev x55r13 : List AO :=
 [o1 44 (.mv (.t 2)),o1 45 (.bin .add (.t 44) (.c (.n .i64 1))),o1 46 (.bs 3 1 1 [.n .i64 0] [(0, 1, (.t 45))]),o1 6 (.mv (.t 46))]
abbrev x55F : AF := ⟨47, (.seq (.reg x55r0) (.seq (.reg x55r1) (.seq (.seq (.reg x55r2) (.block 0 x55k12)) (.seq (.reg x55r13) .ret)))), [.mv (.t 6)]⟩
theorem x55ok : afOf Tryz.prog (hintsOf Tryz.prog 78) 78 = some x55F := by kernel_rfl
/-! compactorlaw24.OptimizerPrunes -/
abbrev x56r0 : List AO :=
 [o1 1 (.bx 25 0 (.t 0)),o1 2 (.mv (.c (.b false)))]
abbrev x56r1 : List AO :=
 [o1 7 (.ld 4 true (.t 1)),⟨some 8, none, .cl (.c (.f 8 [] [])) [(.t 7)]⟩,o1 9 (.un .not (.t 8))]
abbrev x56r2 : List AO :=
 [⟨some 10, none, .cl (.c (.f 9 [] [])) []⟩,o1 2 (.mv (.t 10))]
abbrev x56r3 : List AO :=
 [o1 12 (.ld 4 true (.t 1)),⟨some 13, none, .cl (.c (.f 17 [] [])) [(.t 12)]⟩,o1 11 (.mv (.t 13)),o1 14 (.ext 0 (.t 11)),o1 15 (.ext 1 (.t 11)),o1 3 (.al 25 [.sl0, .n .i64 0, .n .i64 0, .sl0]),⟨none, none, .ap (.st 4 (.t 3) (.t 14))⟩,o1 4 (.mv (.t 15))]
abbrev x56r4 : List AO :=
 [o1 17 (.ld 4 true (.t 1)),⟨some 18, none, .cl (.c (.f 18 [] [])) [(.t 17)]⟩,o1 16 (.mv (.t 18)),o1 19 (.ext 0 (.t 16)),o1 20 (.ext 1 (.t 16)),o1 5 (.al 25 [.sl0, .n .i64 0, .n .i64 0, .sl0]),⟨none, none, .ap (.st 4 (.t 5) (.t 19))⟩,o1 6 (.mv (.t 20))]
abbrev x56r5 : List AO :=
 [⟨some 21, none, .cl (.c (.f 9 [] [])) []⟩,o1 22 (.mv (.t 21)),⟨some 23, some (22, true), .ap (.ld 4 true (.t 3))⟩,⟨some 24, some (22, true), .ap (.ld 4 true (.t 5))⟩,⟨some 25, some (22, true), .cl (.c (.f 12 [] [])) [(.t 23), (.t 24)]⟩,o1 26 (.pick (.t 22) (.t 25) (.c (.b false))),o1 27 (.mv (.t 26)),⟨some 28, some (27, true), .ap (.mv (.t 4))⟩,⟨some 29, some (27, true), .ap (.mv (.t 6))⟩,⟨some 30, some (27, true), .ap (.bin .eql (.t 28) (.t 29))⟩,o1 31 (.pick (.t 27) (.t 30) (.c (.b false))),o1 2 (.mv (.t 31))]
abbrev x56F : AF := ⟨32, (.seq (.reg x56r0) (.seq (.seq (.reg x56r1) (.cond (.t 9) (.seq (.reg x56r2) .ret) .skip)) (.seq (.reg x56r3) (.seq (.reg x56r4) (.seq (.reg x56r5) .ret))))), [.mv (.t 2)]⟩
theorem x56ok : afOf Tryz.prog (hintsOf Tryz.prog 6) 6 = some x56F := by kernel_rfl
end Go.Proofs.YtidhfimbnjaceaaGreat
