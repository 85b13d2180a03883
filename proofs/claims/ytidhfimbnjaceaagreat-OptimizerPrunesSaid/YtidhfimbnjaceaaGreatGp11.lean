/- A part of the proof of OptimizerPrunes: AcA AcB AcC AcE AcF. No condition. -/
import Derived.Test.YtidhfimbnjaceaaGreatGp10
import Derived.Test.YtidhfimbnjaceaaGreatProg
set_option linter.unusedSimpArgs false
set_option linter.unusedVariables false
set_option linter.constructorNameAsVariable false
set_option maxRecDepth 100000
set_option maxHeartbeats 4000000
namespace Go.Proofs.YtidhfimbnjaceaaGreat
open Go.RowKit
set_option linter.unusedVariables false
/-! optimizer.numbers -/
abbrev x1r0 : List AO :=
 [o1 4 (.mv (.c .sl0)),o1 5 (.mv (.c (.b false)))]
abbrev x1r1 : List AO :=
 [o1 6 (.mv (.c .sl0))]
abbrev x1r2 : List AO :=
 [o1 10 (.mv (.t 1)),o1 11 (.len (.t 10)),o1 12 (.mv (.c (.n .i64 0)))]
abbrev x1r3 : List AO :=
 [o1 13 (.bin .lss (.t 12) (.t 11))]
abbrev x1r4 : List AO :=
 [o1 14 (.ia 1 (.t 10) (.t 12)),o1 15 (.ld 1 false (.t 14)),o1 8 (.al 3 [.n .i64 0]),⟨none, none, .ap (.st 1 (.t 8) (.t 15))⟩]
abbrev x1r5 : List AO :=
 [o1 16 (.mv (.t 0)),o1 17 (.mf 112 [] [(.t 8)]),⟨some 18, none, .cl (.c (.f 111 [] [])) [(.t 16), (.t 17)]⟩,o1 9 (.mv (.t 18))]
abbrev x1r6 : List AO :=
 [o1 19 (.mv (.t 9)),o1 20 (.bin .lss (.t 19) (.c (.n .i64 0)))]
abbrev x1r7 : List AO :=
 [o1 4 (.mv (.c .sl0)),o1 5 (.mv (.c (.b false)))]
abbrev x1r8 : List AO :=
 [o1 21 (.mv (.t 6)),o1 22 (.mv (.t 0)),o1 23 (.mv (.t 9)),o1 24 (.ia 2 (.t 22) (.t 23)),o1 25 (.fa 1 (.t 24)),o1 26 (.ld 1 false (.t 25)),o1 27 (.bs 35 1 1 [.n .u32 0] [(0, 1, (.t 26))]),o1 28 (.app 35 1 4 (.t 21) (.t 27)),o1 6 (.mv (.t 28))]
abbrev x1k9 : AC :=
 (.seq (.reg x1r4) (.seq (.reg x1r5) (.seq (.seq (.reg x1r6) (.cond (.t 20) (.seq (.reg x1r7) .ret) .skip)) (.reg x1r8))))
abbrev x1r10 : List AO :=
 [o1 29 (.bin .add (.t 12) (.c (.n .i64 1))),o1 12 (.mv (.t 29))]
abbrev x1b11 : AC :=
 (.seq (.reg x1r3) (.seq (.cond (.t 13) .skip (.exit 0)) (.seq (.block 1 x1k9) (.reg x1r10))))
abbrev x1k12 : AC :=
 (.loop x1b11)
abbrev x1r13 : List AO :=
 [o1 30 (.mv (.t 6)),o1 4 (.mv (.t 30)),o1 5 (.mv (.c (.b true)))]
abbrev x1F : AF := ⟨31, (.seq (.reg x1r0) (.seq (.reg x1r1) (.seq (.seq (.reg x1r2) (.block 0 x1k12)) (.seq (.reg x1r13) .ret)))), [.mv (.t 4), .mv (.t 5)]⟩
theorem x1ok : afOf Tryz.prog (hintsOf Tryz.prog 91) 91 = some x1F := by kernel_rfl
/-! lower.Uses -/
abbrev x2r0 : List AO :=
 [o1 1 (.bx 37 0 (.t 0)),o1 2 (.mv (.c .sl0)),o1 3 (.mv (.c (.n .i64 0)))]
abbrev x2r1 : List AO :=
 [o1 6 (.fa 0 (.t 1)),o1 7 (.ld 1 false (.t 6)),⟨some 8, none, .cl (.c (.f 110 [] [])) [(.t 7)]⟩,o1 4 (.al 128 [.b false, .b false, .b false, .b false]),⟨none, none, .ap (.st 4 (.t 4) (.t 8))⟩]
abbrev x2r2 : List AO :=
 [o1 5 (.mv (.c .sl0))]
abbrev x2r3 : List AO :=
 [o1 9 (.fa 2 (.t 4)),o1 10 (.ld 1 false (.t 9))]
abbrev x2r4 : List AO :=
 [o1 11 (.mv (.t 5)),o1 12 (.fa 2 (.t 1)),o1 13 (.ld 1 false (.t 12)),o1 14 (.bs 3 1 1 [.n .i64 0] [(0, 1, (.t 13))]),o1 15 (.app 3 1 8 (.t 11) (.t 14)),o1 5 (.mv (.t 15))]
abbrev x2r5 : List AO :=
 [o1 16 (.fa 3 (.t 4)),o1 17 (.ld 1 false (.t 16))]
abbrev x2r6 : List AO :=
 [o1 18 (.mv (.t 5)),o1 19 (.fa 3 (.t 1)),o1 20 (.ld 1 false (.t 19)),o1 21 (.bs 3 1 1 [.n .i64 0] [(0, 1, (.t 20))]),o1 22 (.app 3 1 8 (.t 18) (.t 21)),o1 5 (.mv (.t 22))]
abbrev x2r7 : List AO :=
 [o1 23 (.fa 1 (.t 4)),o1 24 (.ld 1 false (.t 23)),o1 25 (.un .not (.t 24))]
abbrev x2r8 : List AO :=
 [o1 26 (.mv (.t 5)),o1 2 (.mv (.t 26)),o1 3 (.mv (.c (.n .i64 (-1))))]
abbrev x2m9 : List (Nat × AO) :=
 [(2, (o1 27 (.mv (.t 5)))),(2, (o1 28 (.fa 1 (.t 1)))),(2, (o1 2 (.mv (.t 27)))),(1, (o1 29 (.ld 1 false (.t 28)))),(2, (o1 3 (.mv (.t 29))))]
abbrev x2F : AF := ⟨30, (.seq (.reg x2r0) (.seq (.reg x2r1) (.seq (.reg x2r2) (.seq (.seq (.reg x2r3) (.cond (.t 10) (.reg x2r4) .skip)) (.seq (.seq (.reg x2r5) (.cond (.t 17) (.reg x2r6) .skip)) (.seq (.seq (.reg x2r7) (.cond (.t 25) (.seq (.reg x2r8) .ret) .skip)) (.seq (.mix x2m9) .ret))))))), [.mv (.t 2), .mv (.t 3)]⟩
theorem x2ok : afOf Tryz.prog (hintsOf Tryz.prog 89) 89 = some x2F := by kernel_rfl
/-! lower.shape -/
/-! optimizer.written -/
abbrev x3r0 : List AO :=
 [o1 1 (.bx 37 0 (.t 0)),o1 2 (.mv (.c (.n .i64 0)))]
abbrev x3r1 : List AO :=
 [o1 6 (.ld 5 true (.t 1)),⟨some 7, none, .cl (.c (.f 89 [] [])) [(.t 6)]⟩,o1 5 (.mv (.t 7)),o1 8 (.ext 0 (.t 5)),o1 9 (.ext 1 (.t 5)),o1 3 (.mv (.t 8)),o1 4 (.mv (.t 9))]
abbrev x3r2 : List AO :=
 [o1 10 (.mv (.t 4)),o1 2 (.mv (.t 10))]
abbrev x3F : AF := ⟨11, (.seq (.reg x3r0) (.seq (.reg x3r1) (.seq (.reg x3r2) .ret))), [.mv (.t 2)]⟩
theorem x3ok : afOf Tryz.prog (hintsOf Tryz.prog 57) 57 = some x3F := by kernel_rfl
/-! optimizer.source -/
abbrev x4r0 : List AO :=
 [o1 4 (.mv (.c (.n .i64 0)))]
abbrev x4r1 : List AO :=
 [o1 7 (.mv (.t 0)),o1 8 (.len (.t 7)),o1 9 (.mv (.c (.n .i64 0)))]
abbrev x4r2 : List AO :=
 [o1 10 (.bin .lss (.t 9) (.t 8))]
abbrev x4r3 : List AO :=
 [o1 11 (.ia 2 (.t 7) (.t 9)),o1 12 (.ld 2 true (.t 11)),o1 6 (.al 102 [.n .i64 0, .n .i64 0]),⟨none, none, .ap (.st 2 (.t 6) (.t 12))⟩]
abbrev x4r4 : List AO :=
 [o1 13 (.fa 0 (.t 6)),o1 14 (.ld 1 false (.t 13)),o1 15 (.mv (.t 1)),o1 16 (.bin .eql (.t 14) (.t 15))]
abbrev x4r5 : List AO :=
 [o1 17 (.fa 1 (.t 6)),o1 18 (.ld 1 false (.t 17)),o1 4 (.mv (.t 18))]
abbrev x4k6 : AC :=
 (.seq (.reg x4r3) (.seq (.reg x4r4) (.cond (.t 16) (.seq (.reg x4r5) .ret) .skip)))
abbrev x4r7 : List AO :=
 [o1 19 (.bin .add (.t 9) (.c (.n .i64 1))),o1 9 (.mv (.t 19))]
abbrev x4b8 : AC :=
 (.seq (.reg x4r2) (.seq (.cond (.t 10) .skip (.exit 0)) (.seq (.block 1 x4k6) (.reg x4r7))))
abbrev x4k9 : AC :=
 (.loop x4b8)
abbrev x4r10 : List AO :=
 [o1 20 (.mv (.t 1)),o1 4 (.mv (.t 20))]
abbrev x4F : AF := ⟨21, (.seq (.reg x4r0) (.seq (.seq (.reg x4r1) (.block 0 x4k9)) (.seq (.reg x4r10) .ret))), [.mv (.t 4)]⟩
theorem x4ok : afOf Tryz.prog (hintsOf Tryz.prog 67) 67 = some x4F := by kernel_rfl
/-! slices.Index[[]optimizer.known,optimizer.known] -/
abbrev x5r0 : List AO :=
 [o1 3 (.bx 84 0 (.t 1)),o1 4 (.mv (.c (.n .i64 0)))]
abbrev x5r1 : List AO :=
 [o1 6 (.mv (.t 0)),o1 7 (.len (.t 6)),o1 8 (.mv (.c (.n .i64 0)))]
abbrev x5r2 : List AO :=
 [o1 9 (.bin .lss (.t 8) (.t 7))]
abbrev x5r3 : List AO :=
 [o1 10 (.mv (.t 8)),o1 5 (.mv (.t 10))]
abbrev x5m4 : List (Nat × AO) :=
 [(2, (o1 12 (.mv (.t 0)))),(2, (o1 13 (.mv (.t 5)))),(2, (o1 14 (.ia 2 (.t 12) (.t 13)))),(1, (o1 11 (.ld 2 true (.t 3)))),(1, (o1 15 (.ld 2 true (.t 14)))),(2, (o1 16 (.eq false (.st [(0, 1, .n), (1, 1, .n)]) (.t 11) (.t 15))))]
abbrev x5r5 : List AO :=
 [o1 17 (.mv (.t 5)),o1 4 (.mv (.t 17))]
abbrev x5k6 : AC :=
 (.seq (.reg x5r3) (.seq (.mix x5m4) (.cond (.t 16) (.seq (.reg x5r5) .ret) .skip)))
abbrev x5r7 : List AO :=
 [o1 18 (.bin .add (.t 8) (.c (.n .i64 1))),o1 8 (.mv (.t 18))]
abbrev x5b8 : AC :=
 (.seq (.reg x5r2) (.seq (.cond (.t 9) .skip (.exit 0)) (.seq (.block 1 x5k6) (.reg x5r7))))
abbrev x5k9 : AC :=
 (.loop x5b8)
abbrev x5r10 : List AO :=
 [o1 4 (.mv (.c (.n .i64 (-1))))]
abbrev x5F : AF := ⟨19, (.seq (.reg x5r0) (.seq (.seq (.reg x5r1) (.block 0 x5k9)) (.seq (.reg x5r10) .ret))), [.mv (.t 4)]⟩
theorem x5ok : afOf Tryz.prog (hintsOf Tryz.prog 119) 119 = some x5F := by kernel_rfl
/-! slices.Contains[[]optimizer.known,optimizer.known] -/
abbrev x6r0 : List AO :=
 [o1 3 (.bx 84 0 (.t 1)),o1 4 (.mv (.c (.b false)))]
abbrev x6r1 : List AO :=
 [o1 5 (.mv (.t 0)),o1 6 (.ld 2 true (.t 3)),⟨some 7, none, .cl (.c (.f 119 [] [])) [(.t 5), (.t 6)]⟩,o1 8 (.bin .geq (.t 7) (.c (.n .i64 0))),o1 4 (.mv (.t 8))]
abbrev x6F : AF := ⟨9, (.seq (.reg x6r0) (.seq (.reg x6r1) .ret)), [.mv (.t 4)]⟩
theorem x6ok : afOf Tryz.prog (hintsOf Tryz.prog 109) 109 = some x6F := by kernel_rfl
/-! slices.IndexFunc[[]optimizer.known,optimizer.known] -/
abbrev x7r0 : List AO :=
 [o1 4 (.mv (.c (.n .i64 0)))]
abbrev x7r1 : List AO :=
 [o1 6 (.mv (.t 0)),o1 7 (.len (.t 6)),o1 8 (.mv (.c (.n .i64 0)))]
abbrev x7r2 : List AO :=
 [o1 9 (.bin .lss (.t 8) (.t 7))]
abbrev x7r3 : List AO :=
 [o1 10 (.mv (.t 8)),o1 5 (.mv (.t 10))]
abbrev x7r4 : List AO :=
 [o1 11 (.mv (.t 1)),o1 12 (.mv (.t 0)),o1 13 (.mv (.t 5)),o1 14 (.ia 2 (.t 12) (.t 13)),o1 15 (.ld 2 true (.t 14)),⟨some 16, none, .cl (.t 11) [(.t 15)]⟩]
abbrev x7r5 : List AO :=
 [o1 17 (.mv (.t 5)),o1 4 (.mv (.t 17))]
abbrev x7k6 : AC :=
 (.seq (.reg x7r3) (.seq (.reg x7r4) (.cond (.t 16) (.seq (.reg x7r5) .ret) .skip)))
abbrev x7r7 : List AO :=
 [o1 18 (.bin .add (.t 8) (.c (.n .i64 1))),o1 8 (.mv (.t 18))]
abbrev x7b8 : AC :=
 (.seq (.reg x7r2) (.seq (.cond (.t 9) .skip (.exit 0)) (.seq (.block 1 x7k6) (.reg x7r7))))
abbrev x7k9 : AC :=
 (.loop x7b8)
abbrev x7r10 : List AO :=
 [o1 4 (.mv (.c (.n .i64 (-1))))]
abbrev x7F : AF := ⟨19, (.seq (.reg x7r0) (.seq (.seq (.reg x7r1) (.block 0 x7k9)) (.seq (.reg x7r10) .ret))), [.mv (.t 4)]⟩
theorem x7ok : afOf Tryz.prog (hintsOf Tryz.prog 111) 111 = some x7F := by kernel_rfl
/-! optimizer.numbers$1 -/
abbrev x8r0 : List AO :=
 [o1 2 (.bx 84 0 (.t 0)),o1 3 (.mv (.c (.b false)))]
abbrev x8r1 : List AO :=
 [o1 4 (.fa 0 (.t 2)),o1 5 (.ld 1 false (.t 4)),o1 6 (.ld 1 false (.t 1)),o1 7 (.bin .eql (.t 5) (.t 6)),o1 3 (.mv (.t 7))]
abbrev x8F : AF := ⟨8, (.seq (.reg x8r0) (.seq (.reg x8r1) .ret)), [.mv (.t 3)]⟩
theorem x8ok : afOf Tryz.prog (hintsOf Tryz.prog 112) 112 = some x8F := by kernel_rfl
/-! optimizer.both[optimizer.known] -/
abbrev x9r0 : List AO :=
 [o1 4 (.mv (.c .sl0))]
abbrev x9r1 : List AO :=
 [o1 5 (.mv (.c .sl0))]
abbrev x9r2 : List AO :=
 [o1 8 (.mv (.t 0)),o1 9 (.len (.t 8)),o1 10 (.mv (.c (.n .i64 0)))]
abbrev x9r3 : List AO :=
 [o1 11 (.bin .lss (.t 10) (.t 9))]
abbrev x9r4 : List AO :=
 [o1 12 (.ia 2 (.t 8) (.t 10)),o1 13 (.ld 2 true (.t 12)),o1 7 (.al 84 [.n .i64 0, .n .u32 0]),⟨none, none, .ap (.st 2 (.t 7) (.t 13))⟩]
abbrev x9r5 : List AO :=
 [o1 14 (.mv (.t 1)),o1 15 (.ld 2 true (.t 7)),⟨some 16, none, .cl (.c (.f 109 [] [])) [(.t 14), (.t 15)]⟩]
abbrev x9r6 : List AO :=
 [o1 17 (.mv (.t 5)),o1 18 (.ld 2 true (.t 7)),o1 19 (.bs 84 2 1 [.n .i64 0, .n .u32 0] [(0, 2, (.t 18))]),o1 20 (.app 84 2 16 (.t 17) (.t 19)),o1 5 (.mv (.t 20))]
abbrev x9k7 : AC :=
 (.seq (.reg x9r4) (.seq (.reg x9r5) (.cond (.t 16) (.reg x9r6) .skip)))
abbrev x9r8 : List AO :=
 [o1 21 (.bin .add (.t 10) (.c (.n .i64 1))),o1 10 (.mv (.t 21))]
abbrev x9b9 : AC :=
 (.seq (.reg x9r3) (.seq (.cond (.t 11) .skip (.exit 0)) (.seq (.block 1 x9k7) (.reg x9r8))))
abbrev x9k10 : AC :=
 (.loop x9b9)
abbrev x9r11 : List AO :=
 [o1 22 (.mv (.t 5)),o1 4 (.mv (.t 22))]
abbrev x9F : AF := ⟨23, (.seq (.reg x9r0) (.seq (.reg x9r1) (.seq (.seq (.reg x9r2) (.block 0 x9k10)) (.seq (.reg x9r11) .ret)))), [.mv (.t 4)]⟩
theorem x9ok : afOf Tryz.prog (hintsOf Tryz.prog 88) 88 = some x9F := by kernel_rfl
/-! optimizer.without[optimizer.known] -/
abbrev x10r0 : List AO :=
 [o1 4 (.bx 91 0 (.t 1)),o1 6 (.mv (.c .sl0))]
abbrev x10r1 : List AO :=
 [o1 7 (.mv (.c .sl0))]
abbrev x10r2 : List AO :=
 [o1 10 (.mv (.t 0)),o1 11 (.len (.t 10)),o1 12 (.mv (.c (.n .i64 0)))]
abbrev x10r3 : List AO :=
 [o1 13 (.bin .lss (.t 12) (.t 11))]
abbrev x10r4 : List AO :=
 [o1 14 (.ia 2 (.t 10) (.t 12)),o1 15 (.ld 2 true (.t 14)),o1 9 (.al 84 [.n .i64 0, .n .u32 0]),⟨none, none, .ap (.st 2 (.t 9) (.t 15))⟩]
abbrev x10r5 : List AO :=
 [o1 16 (.mv (.t 2)),o1 17 (.mf 108 [] [(.t 4), (.t 9)]),⟨some 18, none, .cl (.c (.f 107 [] [])) [(.t 16), (.t 17)]⟩,o1 19 (.un .not (.t 18))]
abbrev x10r6 : List AO :=
 [o1 20 (.mv (.t 7)),o1 21 (.ld 2 true (.t 9)),o1 22 (.bs 84 2 1 [.n .i64 0, .n .u32 0] [(0, 2, (.t 21))]),o1 23 (.app 84 2 16 (.t 20) (.t 22)),o1 7 (.mv (.t 23))]
abbrev x10k7 : AC :=
 (.seq (.reg x10r4) (.seq (.reg x10r5) (.cond (.t 19) (.reg x10r6) .skip)))
abbrev x10r8 : List AO :=
 [o1 24 (.bin .add (.t 12) (.c (.n .i64 1))),o1 12 (.mv (.t 24))]
abbrev x10b9 : AC :=
 (.seq (.reg x10r3) (.seq (.cond (.t 13) .skip (.exit 0)) (.seq (.block 1 x10k7) (.reg x10r8))))
abbrev x10k10 : AC :=
 (.loop x10b9)
abbrev x10r11 : List AO :=
 [o1 25 (.mv (.t 7)),o1 6 (.mv (.t 25))]
abbrev x10F : AF := ⟨26, (.seq (.reg x10r0) (.seq (.reg x10r1) (.seq (.seq (.reg x10r2) (.block 0 x10k10)) (.seq (.reg x10r11) .ret)))), [.mv (.t 6)]⟩
theorem x10ok : afOf Tryz.prog (hintsOf Tryz.prog 87) 87 = some x10F := by kernel_rfl
/-! optimizer.without[optimizer.known]$1 -/
abbrev x11r0 : List AO :=
 [o1 3 (.bx 37 0 (.t 0)),o1 4 (.mv (.c (.b false)))]
abbrev x11r1 : List AO :=
 [o1 5 (.fa 0 (.t 1)),o1 6 (.ld 1 false (.t 5)),o1 7 (.ld 5 true (.t 3)),o1 8 (.ld 2 true (.t 2)),⟨some 9, none, .cl (.t 6) [(.t 7), (.t 8)]⟩,o1 4 (.mv (.t 9))]
abbrev x11F : AF := ⟨10, (.seq (.reg x11r0) (.seq (.reg x11r1) .ret)), [.mv (.t 4)]⟩
theorem x11ok : afOf Tryz.prog (hintsOf Tryz.prog 108) 108 = some x11F := by kernel_rfl
/-! slices.ContainsFunc[[]api.RegInstr,api.RegInstr] -/
abbrev x12r0 : List AO :=
 [o1 4 (.mv (.c (.b false)))]
abbrev x12r1 : List AO :=
 [o1 5 (.mv (.t 0)),o1 6 (.mv (.t 1)),⟨some 7, none, .cl (.c (.f 118 [] [])) [(.t 5), (.t 6)]⟩,o1 8 (.bin .geq (.t 7) (.c (.n .i64 0))),o1 4 (.mv (.t 8))]
abbrev x12F : AF := ⟨9, (.seq (.reg x12r0) (.seq (.reg x12r1) .ret)), [.mv (.t 4)]⟩
theorem x12ok : afOf Tryz.prog (hintsOf Tryz.prog 107) 107 = some x12F := by kernel_rfl
/-! slices.IndexFunc[[]api.RegInstr,api.RegInstr] -/
abbrev x13r0 : List AO :=
 [o1 4 (.mv (.c (.n .i64 0)))]
abbrev x13r1 : List AO :=
 [o1 6 (.mv (.t 0)),o1 7 (.len (.t 6)),o1 8 (.mv (.c (.n .i64 0)))]
abbrev x13r2 : List AO :=
 [o1 9 (.bin .lss (.t 8) (.t 7))]
abbrev x13r3 : List AO :=
 [o1 10 (.mv (.t 8)),o1 5 (.mv (.t 10))]
abbrev x13r4 : List AO :=
 [o1 11 (.mv (.t 1)),o1 12 (.mv (.t 0)),o1 13 (.mv (.t 5)),o1 14 (.ia 5 (.t 12) (.t 13)),o1 15 (.ld 5 true (.t 14)),⟨some 16, none, .cl (.t 11) [(.t 15)]⟩]
abbrev x13r5 : List AO :=
 [o1 17 (.mv (.t 5)),o1 4 (.mv (.t 17))]
abbrev x13k6 : AC :=
 (.seq (.reg x13r3) (.seq (.reg x13r4) (.cond (.t 16) (.seq (.reg x13r5) .ret) .skip)))
abbrev x13r7 : List AO :=
 [o1 18 (.bin .add (.t 8) (.c (.n .i64 1))),o1 8 (.mv (.t 18))]
abbrev x13b8 : AC :=
 (.seq (.reg x13r2) (.seq (.cond (.t 9) .skip (.exit 0)) (.seq (.block 1 x13k6) (.reg x13r7))))
abbrev x13k9 : AC :=
 (.loop x13b8)
abbrev x13r10 : List AO :=
 [o1 4 (.mv (.c (.n .i64 (-1))))]
abbrev x13F : AF := ⟨19, (.seq (.reg x13r0) (.seq (.seq (.reg x13r1) (.block 0 x13k9)) (.seq (.reg x13r10) .ret))), [.mv (.t 4)]⟩
theorem x13ok : afOf Tryz.prog (hintsOf Tryz.prog 118) 118 = some x13F := by kernel_rfl
/-! optimizer.arithmetic -/
abbrev x14r0 : List AO :=
 [o1 2 (.mv (.c (.b false)))]
abbrev x14r1 : List AO :=
 [o1 3 (.mv (.t 0)),o1 4 (.bin .geq (.t 3) (.c (.n .i64 8))),o1 5 (.mv (.t 4)),⟨some 6, some (5, true), .ap (.mv (.t 0))⟩,⟨some 7, some (5, true), .ap (.bin .leq (.t 6) (.c (.n .i64 26)))⟩,o1 8 (.pick (.t 5) (.t 7) (.c (.b false))),o1 2 (.mv (.t 8))]
abbrev x14F : AF := ⟨9, (.seq (.reg x14r0) (.seq (.reg x14r1) .ret)), [.mv (.t 2)]⟩
theorem x14ok : afOf Tryz.prog (hintsOf Tryz.prog 90) 90 = some x14F := by kernel_rfl
/-! optimizer.folded -/
abbrev x15r0 : List AO :=
 [o1 2 (.bx 37 0 (.t 0)),o1 4 (.al 37 [.n .i64 0, .n .i64 0, .n .i64 0, .n .i64 0, .n .u32 0])]
abbrev x15r1 : List AO :=
 [o1 12 (.fa 0 (.t 2)),o1 13 (.ld 1 false (.t 12)),⟨some 14, none, .cl (.c (.f 90 [] [])) [(.t 13)]⟩,o1 15 (.un .not (.t 14)),o1 16 (.mv (.t 15)),⟨some 17, some (16, true), .ap (.fa 0 (.t 2))⟩,⟨some 18, some (16, true), .ap (.ld 1 false (.t 17))⟩,⟨some 19, some (16, true), .ap (.bin .neq (.t 18) (.c (.n .i64 36)))⟩,o1 20 (.pick (.t 16) (.t 19) (.c (.b false)))]
abbrev x15r2 : List AO :=
 [o1 21 (.ld 5 true (.t 2)),⟨none, none, .ap (.st 5 (.t 4) (.t 21))⟩]
abbrev x15r3 : List AO :=
 [o1 23 (.ld 5 true (.t 2)),⟨some 24, none, .cl (.c (.f 89 [] [])) [(.t 23)]⟩,o1 22 (.mv (.t 24)),o1 25 (.ext 0 (.t 22)),o1 26 (.ext 1 (.t 22)),o1 5 (.mv (.t 25)),o1 6 (.mv (.t 26))]
abbrev x15r4 : List AO :=
 [o1 28 (.mv (.t 1)),o1 29 (.mv (.t 5)),⟨some 30, none, .cl (.c (.f 91 [] [])) [(.t 28), (.t 29)]⟩,o1 27 (.mv (.t 30)),o1 31 (.ext 0 (.t 27)),o1 32 (.ext 1 (.t 27)),o1 7 (.mv (.t 31)),o1 8 (.mv (.t 32))]
abbrev x15r5 : List AO :=
 [o1 33 (.mv (.t 8)),o1 34 (.un .not (.t 33))]
abbrev x15r6 : List AO :=
 [o1 35 (.ld 5 true (.t 2)),⟨none, none, .ap (.st 5 (.t 4) (.t 35))⟩]
abbrev x15r7 : List AO :=
 [o1 36 (.mv (.t 7)),o1 37 (.ia 1 (.t 36) (.c (.n .i64 0))),o1 38 (.ld 1 false (.t 37)),o1 9 (.mv (.t 38))]
abbrev x15r8 : List AO :=
 [o1 39 (.fa 0 (.t 2)),o1 40 (.ld 1 false (.t 39)),⟨some 41, none, .cl (.c (.f 90 [] [])) [(.t 40)]⟩]
abbrev x15r9 : List AO :=
 [o1 42 (.mv (.t 7)),o1 43 (.bs 35 1 1 [.n .u32 0] [(0, 1, (.c (.n .u32 0)))]),o1 44 (.app 35 1 4 (.t 42) (.t 43)),o1 7 (.mv (.t 44))]
abbrev x15m10 : List (Nat × AO) :=
 [(2, (o1 46 (.fa 0 (.t 2)))),(2, (o1 48 (.mv (.t 7)))),(2, (o1 49 (.ia 1 (.t 48) (.c (.n .i64 0))))),(2, (o1 51 (.mv (.t 7)))),(2, (o1 52 (.ia 1 (.t 51) (.c (.n .i64 1))))),(1, (o1 47 (.ld 1 false (.t 46)))),(1, (o1 50 (.ld 1 false (.t 49)))),(1, (o1 53 (.ld 1 false (.t 52)))),(3, ⟨some 54, none, .cl (.c (.f 92 [] [])) [(.t 47), (.t 50), (.t 53)]⟩),(2, (o1 45 (.mv (.t 54)))),(2, (o1 55 (.ext 0 (.t 45)))),(2, (o1 56 (.ext 1 (.t 45)))),(2, (o1 10 (.mv (.t 55)))),(2, (o1 11 (.mv (.t 56))))]
abbrev x15r11 : List AO :=
 [o1 57 (.mv (.t 11)),o1 58 (.bin .neq (.t 57) (.c (.n .i64 0)))]
abbrev x15r12 : List AO :=
 [o1 59 (.ld 5 true (.t 2)),⟨none, none, .ap (.st 5 (.t 4) (.t 59))⟩]
abbrev x15r13 : List AO :=
 [o1 60 (.mv (.t 10)),o1 9 (.mv (.t 60))]
abbrev x15r14 : List AO :=
 [o1 61 (.fa 1 (.t 2)),o1 62 (.ld 1 false (.t 61)),o1 63 (.mv (.t 9)),o1 64 (.bd [.n .i64 0, .n .i64 0, .n .i64 0, .n .i64 0, .n .u32 0] [(0, 1, (.c (.n .i64 0))), (1, 1, (.t 62)), (2, 1, (.c (.n .i64 (-1)))), (3, 1, (.c (.n .i64 (-1)))), (4, 1, (.t 63))]),⟨none, none, .ap (.st 5 (.t 4) (.t 64))⟩]
abbrev x15F : AF := ⟨65, (.seq (.reg x15r0) (.seq (.seq (.reg x15r1) (.cond (.t 20) (.seq (.reg x15r2) .ret) .skip)) (.seq (.reg x15r3) (.seq (.reg x15r4) (.seq (.seq (.reg x15r5) (.cond (.t 34) (.seq (.reg x15r6) .ret) .skip)) (.seq (.reg x15r7) (.seq (.seq (.reg x15r8) (.cond (.t 41) (.seq (.reg x15r9) (.seq (.mix x15m10) (.seq (.seq (.reg x15r11) (.cond (.t 58) (.seq (.reg x15r12) .ret) .skip)) (.reg x15r13)))) .skip)) (.seq (.reg x15r14) .ret)))))))), [.ld 5 true (.t 4)]⟩
theorem x15ok : afOf Tryz.prog (hintsOf Tryz.prog 59) 59 = some x15F := by kernel_rfl
/-! optimizer.fold$1 -/
abbrev x16r0 : List AO :=
 [o1 2 (.bx 37 0 (.t 0)),o1 3 (.bx 84 0 (.t 1)),o1 4 (.mv (.c (.b false)))]
abbrev x16m1 : List (Nat × AO) :=
 [(2, (o1 7 (.fa 0 (.t 3)))),(1, (o1 5 (.ld 5 true (.t 2)))),(1, (o1 8 (.ld 1 false (.t 7)))),(0, ⟨some 6, none, .cl (.c (.f 57 [] [])) [(.t 5)]⟩),(2, (o1 9 (.bin .eql (.t 6) (.t 8)))),(2, (o1 4 (.mv (.t 9))))]
abbrev x16F : AF := ⟨10, (.seq (.reg x16r0) (.seq (.mix x16m1) .ret)), [.mv (.t 4)]⟩
theorem x16ok : afOf Tryz.prog (hintsOf Tryz.prog 56) 56 = some x16F := by kernel_rfl
/-! optimizer.fold$2 -/
abbrev x17r0 : List AO :=
 [o1 2 (.bx 37 0 (.t 0)),o1 4 (.al 37 [.n .i64 0, .n .i64 0, .n .i64 0, .n .i64 0, .n .u32 0]),o1 5 (.mv (.c (.b false))),o1 6 (.mv (.c .sl0))]
abbrev x17r1 : List AO :=
 [o1 8 (.ld 5 true (.t 2)),o1 9 (.mv (.t 1)),⟨some 10, none, .cl (.c (.f 59 [] [])) [(.t 8), (.t 9)]⟩,o1 7 (.al 37 [.n .i64 0, .n .i64 0, .n .i64 0, .n .i64 0, .n .u32 0]),⟨none, none, .ap (.st 5 (.t 7) (.t 10))⟩]
abbrev x17r2 : List AO :=
 [o1 11 (.fa 0 (.t 7)),o1 12 (.ld 1 false (.t 11)),o1 13 (.bin .eql (.t 12) (.c (.n .i64 0)))]
abbrev x17m3 : List (Nat × AO) :=
 [(1, (o1 14 (.ld 5 true (.t 7)))),(2, (o1 15 (.fa 1 (.t 7)))),(1, (o1 16 (.ld 1 false (.t 15)))),(2, (o1 17 (.fa 4 (.t 7)))),(1, (o1 18 (.ld 1 false (.t 17)))),(2, (o1 19 (.bd [.n .i64 0, .n .u32 0] [(0, 1, (.t 16)), (1, 1, (.t 18))])))]
abbrev x17t4 : AT :=
 (.alt (o1 20 (.bs 84 2 1 [.n .i64 0, .n .u32 0] [(0, 2, (.t 19))])) (.alt ⟨none, none, .ap (.st 5 (.t 4) (.t 14))⟩ (.alt (o1 5 (.mv (.c (.b true)))) (.alt (o1 6 (.mv (.t 20))) .fin .none) .none) .none) (.alt ⟨none, none, .ap (.st 5 (.t 4) (.t 14))⟩ (.alt (o1 20 (.bs 84 2 1 [.n .i64 0, .n .u32 0] [(0, 2, (.t 19))])) (.alt (o1 5 (.mv (.c (.b true)))) (.alt (o1 6 (.mv (.t 20))) .fin .none) .none) (.alt (o1 5 (.mv (.c (.b true)))) (.alt (o1 20 (.bs 84 2 1 [.n .i64 0, .n .u32 0] [(0, 2, (.t 19))])) (.alt (o1 6 (.mv (.t 20))) .fin .none) .none) .none)) .none))
abbrev x17r5 : List AO :=
 [o1 21 (.ld 5 true (.t 7)),⟨none, none, .ap (.st 5 (.t 4) (.t 21))⟩,o1 5 (.mv (.c (.b true))),o1 6 (.mv (.c .sl0))]
abbrev x17F : AF := ⟨22, (.seq (.reg x17r0) (.seq (.reg x17r1) (.seq (.seq (.reg x17r2) (.cond (.t 13) (.seq (.frk x17m3 x17t4) .ret) .skip)) (.seq (.reg x17r5) .ret)))), [.ld 5 true (.t 4), .mv (.t 5), .mv (.t 6)]⟩
theorem x17ok : afOf Tryz.prog (hintsOf Tryz.prog 58) 58 = some x17F := by kernel_rfl
/-! optimizer.pairs -/
abbrev x18r0 : List AO :=
 [o1 2 (.mv (.c .sl0))]
abbrev x18r1 : List AO :=
 [o1 11 (.mv (.t 0)),o1 12 (.len (.t 11)),o1 13 (.ms 3 1 8 [.n .i64 0] (.t 12) (.t 12)),o1 3 (.mv (.t 13))]
abbrev x18r2 : List AO :=
 [o1 4 (.mv (.c .sl0)),o1 5 (.mv (.c .sl0))]
abbrev x18r3 : List AO :=
 [o1 14 (.mv (.t 0)),o1 15 (.len (.t 14)),o1 16 (.mv (.c (.n .i64 0)))]
abbrev x18r4 : List AO :=
 [o1 17 (.bin .lss (.t 16) (.t 15))]
abbrev x18r5 : List AO :=
 [o1 18 (.mv (.t 16)),o1 19 (.ia 5 (.t 14) (.t 16)),o1 20 (.ld 5 true (.t 19)),o1 7 (.al 37 [.n .i64 0, .n .i64 0, .n .i64 0, .n .i64 0, .n .u32 0]),o1 6 (.mv (.t 18)),⟨none, none, .ap (.st 5 (.t 7) (.t 20))⟩]
abbrev x18r6 : List AO :=
 [o1 21 (.mv (.t 3)),o1 22 (.mv (.t 6)),o1 23 (.ia 1 (.t 21) (.t 22)),⟨none, none, .ap (.st 1 (.t 23) (.c (.n .i64 (-1))))⟩]
abbrev x18r7 : List AO :=
 [o1 24 (.fa 0 (.t 7)),o1 25 (.ld 1 false (.t 24))]
abbrev x18r8 : List AO :=
 [o1 27 (.bin .eql (.t 25) (.c (.n .i64 27))),o1 26 (.mv (.t 27))]
abbrev x18r9 : List AO :=
 [o1 28 (.mv (.t 4)),o1 29 (.mv (.t 6)),o1 30 (.bs 3 1 1 [.n .i64 0] [(0, 1, (.t 29))]),o1 31 (.app 3 1 8 (.t 28) (.t 30)),o1 4 (.mv (.t 31))]
abbrev x18r10 : List AO :=
 [o1 33 (.bin .eql (.t 25) (.c (.n .i64 29))),o1 32 (.mv (.t 33))]
abbrev x18r11 : List AO :=
 [o1 34 (.mv (.t 4)),o1 35 (.mv (.t 6)),o1 36 (.bs 3 1 1 [.n .i64 0] [(0, 1, (.t 35))]),o1 37 (.app 3 1 8 (.t 34) (.t 36)),o1 38 (.mv (.t 5)),o1 39 (.mv (.t 6)),o1 40 (.bs 3 1 1 [.n .i64 0] [(0, 1, (.t 39))]),o1 41 (.app 3 1 8 (.t 38) (.t 40)),o1 4 (.mv (.t 37)),o1 5 (.mv (.t 41))]
abbrev x18r12 : List AO :=
 [o1 43 (.bin .eql (.t 25) (.c (.n .i64 28))),o1 42 (.mv (.t 43))]
abbrev x18r13 : List AO :=
 [o1 44 (.mv (.t 3)),o1 45 (.mv (.t 4)),o1 46 (.mv (.t 4)),o1 47 (.len (.t 46)),o1 48 (.bin .sub (.t 47) (.c (.n .i64 1))),o1 49 (.ia 1 (.t 45) (.t 48)),o1 50 (.ld 1 false (.t 49)),o1 51 (.mv (.t 6)),o1 52 (.ia 1 (.t 44) (.t 50)),⟨none, none, .ap (.st 1 (.t 52) (.t 51))⟩]
abbrev x18r14 : List AO :=
 [o1 54 (.bin .eql (.t 25) (.c (.n .i64 31))),o1 53 (.mv (.t 54))]
abbrev x18r15 : List AO :=
 [o1 55 (.mv (.t 4)),o1 56 (.mv (.t 4)),o1 57 (.len (.t 56)),o1 58 (.bin .sub (.t 57) (.c (.n .i64 1))),o1 59 (.ia 1 (.t 55) (.t 58)),o1 60 (.ld 1 false (.t 59)),o1 8 (.mv (.t 60))]
abbrev x18r16 : List AO :=
 [o1 61 (.mv (.t 4)),o1 62 (.mv (.t 4)),o1 63 (.len (.t 62)),o1 64 (.bin .sub (.t 63) (.c (.n .i64 1))),o1 65 (.sl 1 (.t 61) none (some (.t 64))),o1 4 (.mv (.t 65))]
abbrev x18r17 : List AO :=
 [o1 66 (.mv (.t 3)),o1 67 (.mv (.t 6)),o1 68 (.mv (.t 8)),o1 69 (.ia 1 (.t 66) (.t 67)),⟨none, none, .ap (.st 1 (.t 69) (.t 68))⟩]
abbrev x18r18 : List AO :=
 [o1 70 (.mv (.t 3)),o1 71 (.mv (.t 8)),o1 72 (.ia 1 (.t 70) (.t 71)),o1 73 (.ld 1 false (.t 72)),o1 74 (.bin .geq (.t 73) (.c (.n .i64 0)))]
abbrev x18r19 : List AO :=
 [o1 75 (.mv (.t 3)),o1 76 (.mv (.t 3)),o1 77 (.mv (.t 8)),o1 78 (.ia 1 (.t 76) (.t 77)),o1 79 (.ld 1 false (.t 78)),o1 80 (.mv (.t 6)),o1 81 (.ia 1 (.t 75) (.t 79)),⟨none, none, .ap (.st 1 (.t 81) (.t 80))⟩]
abbrev x18r20 : List AO :=
 [o1 82 (.mv (.t 3)),o1 83 (.mv (.t 8)),o1 84 (.mv (.t 6)),o1 85 (.ia 1 (.t 82) (.t 83)),⟨none, none, .ap (.st 1 (.t 85) (.t 84))⟩]
abbrev x18r21 : List AO :=
 [o1 86 (.mv (.t 0)),o1 87 (.mv (.t 8)),o1 88 (.ia 5 (.t 86) (.t 87)),o1 89 (.fa 0 (.t 88)),o1 90 (.ld 1 false (.t 89)),o1 91 (.bin .eql (.t 90) (.c (.n .i64 29)))]
abbrev x18r22 : List AO :=
 [o1 92 (.mv (.t 5)),o1 93 (.mv (.t 5)),o1 94 (.len (.t 93)),o1 95 (.bin .sub (.t 94) (.c (.n .i64 1))),o1 96 (.sl 1 (.t 92) none (some (.t 95))),o1 5 (.mv (.t 96))]
abbrev x18r23 : List AO :=
 [o1 98 (.bin .eql (.t 25) (.c (.n .i64 30))),o1 97 (.mv (.t 98))]
abbrev x18r24 : List AO :=
 [o1 99 (.mv (.t 3)),o1 100 (.mv (.t 6)),o1 101 (.mv (.t 5)),o1 102 (.mv (.t 5)),o1 103 (.len (.t 102)),o1 104 (.bin .sub (.t 103) (.c (.n .i64 1))),o1 105 (.ia 1 (.t 101) (.t 104)),o1 106 (.ld 1 false (.t 105)),o1 107 (.ia 1 (.t 99) (.t 100)),⟨none, none, .ap (.st 1 (.t 107) (.t 106))⟩]
abbrev x18k25 : AC :=
 (.seq (.reg x18r8) (.cond (.t 26) (.reg x18r9) (.seq (.reg x18r10) (.cond (.t 32) (.reg x18r11) (.seq (.reg x18r12) (.cond (.t 42) (.reg x18r13) (.seq (.reg x18r14) (.cond (.t 53) (.seq (.reg x18r15) (.seq (.reg x18r16) (.seq (.reg x18r17) (.seq (.seq (.reg x18r18) (.cond (.t 74) (.reg x18r19) (.reg x18r20))) (.seq (.reg x18r21) (.cond (.t 91) (.reg x18r22) .skip)))))) (.seq (.reg x18r23) (.cond (.t 97) (.reg x18r24) .skip))))))))))
abbrev x18k26 : AC :=
 (.seq (.reg x18r5) (.seq (.reg x18r6) (.seq (.reg x18r7) (.block 2 x18k25))))
abbrev x18r27 : List AO :=
 [o1 108 (.bin .add (.t 16) (.c (.n .i64 1))),o1 16 (.mv (.t 108))]
abbrev x18b28 : AC :=
 (.seq (.reg x18r4) (.seq (.cond (.t 17) .skip (.exit 0)) (.seq (.block 1 x18k26) (.reg x18r27))))
abbrev x18k29 : AC :=
 (.loop x18b28)
abbrev x18r30 : List AO :=
 [o1 109 (.mv (.t 0)),o1 110 (.len (.t 109)),o1 111 (.mv (.c (.n .i64 0)))]
abbrev x18r31 : List AO :=
 [o1 112 (.bin .lss (.t 111) (.t 110))]
abbrev x18r32 : List AO :=
 [o1 113 (.mv (.t 111)),o1 114 (.ia 5 (.t 109) (.t 111)),o1 115 (.ld 5 true (.t 114)),o1 10 (.al 37 [.n .i64 0, .n .i64 0, .n .i64 0, .n .i64 0, .n .u32 0]),o1 9 (.mv (.t 113)),⟨none, none, .ap (.st 5 (.t 10) (.t 115))⟩]
abbrev x18r33 : List AO :=
 [o1 116 (.fa 0 (.t 10)),o1 117 (.ld 1 false (.t 116)),o1 118 (.bin .eql (.t 117) (.c (.n .i64 30)))]
abbrev x18r34 : List AO :=
 [o1 119 (.mv (.t 3)),o1 120 (.mv (.t 9)),o1 121 (.mv (.t 3)),o1 122 (.mv (.t 3)),o1 123 (.mv (.t 9)),o1 124 (.ia 1 (.t 122) (.t 123)),o1 125 (.ld 1 false (.t 124)),o1 126 (.ia 1 (.t 121) (.t 125)),o1 127 (.ld 1 false (.t 126)),o1 128 (.ia 1 (.t 119) (.t 120)),⟨none, none, .ap (.st 1 (.t 128) (.t 127))⟩]
abbrev x18k35 : AC :=
 (.seq (.reg x18r32) (.seq (.reg x18r33) (.cond (.t 118) (.reg x18r34) .skip)))
abbrev x18r36 : List AO :=
 [o1 129 (.bin .add (.t 111) (.c (.n .i64 1))),o1 111 (.mv (.t 129))]
abbrev x18b37 : AC :=
 (.seq (.reg x18r31) (.seq (.cond (.t 112) .skip (.exit 3)) (.seq (.block 4 x18k35) (.reg x18r36))))
abbrev x18k38 : AC :=
 (.loop x18b37)
abbrev x18r39 : List AO :=
 [o1 130 (.mv (.t 3)),o1 2 (.mv (.t 130))]
abbrev x18F : AF := ⟨131, (.seq (.reg x18r0) (.seq (.reg x18r1) (.seq (.reg x18r2) (.seq (.seq (.reg x18r3) (.block 0 x18k29)) (.seq (.seq (.reg x18r30) (.block 3 x18k38)) (.seq (.reg x18r39) .ret)))))), [.mv (.t 2)]⟩
theorem x18ok : afOf Tryz.prog (hintsOf Tryz.prog 86) 86 = some x18F := by kernel_rfl
/-! optimizer.walk[optimizer.known] -/
abbrev x19r0 : List AO :=
 [o1 5 (.bx 91 0 (.t 2)),o1 6 (.mv (.c .sl0))]
abbrev x19r1 : List AO :=
 [o1 16 (.mv (.t 0)),⟨some 17, none, .cl (.c (.f 86 [] [])) [(.t 16)]⟩,o1 7 (.mv (.t 17))]
abbrev x19r2 : List AO :=
 [o1 8 (.mv (.c .sl0))]
abbrev x19r3 : List AO :=
 [o1 9 (.mv (.c .sl0))]
abbrev x19r4 : List AO :=
 [o1 18 (.mv (.t 0)),o1 19 (.len (.t 18)),o1 20 (.mv (.c (.n .i64 0)))]
abbrev x19r5 : List AO :=
 [o1 21 (.bin .lss (.t 20) (.t 19))]
abbrev x19r6 : List AO :=
 [o1 22 (.mv (.t 20)),o1 23 (.ia 5 (.t 18) (.t 20)),o1 24 (.ld 5 true (.t 23)),o1 11 (.al 37 [.n .i64 0, .n .i64 0, .n .i64 0, .n .i64 0, .n .u32 0]),o1 10 (.mv (.t 22)),⟨none, none, .ap (.st 5 (.t 11) (.t 24))⟩]
abbrev x19r7 : List AO :=
 [o1 26 (.fa 1 (.t 5)),o1 27 (.ld 1 false (.t 26)),o1 28 (.ld 5 true (.t 11)),o1 29 (.mv (.t 1)),⟨some 30, none, .cl (.t 27) [(.t 28), (.t 29)]⟩,o1 25 (.mv (.t 30)),o1 31 (.ext 0 (.t 25)),o1 32 (.ext 1 (.t 25)),o1 33 (.ext 2 (.t 25)),o1 12 (.al 37 [.n .i64 0, .n .i64 0, .n .i64 0, .n .i64 0, .n .u32 0]),⟨none, none, .ap (.st 5 (.t 12) (.t 31))⟩,o1 13 (.mv (.t 32)),o1 14 (.mv (.t 33))]
abbrev x19r8 : List AO :=
 [o1 34 (.mv (.t 13)),o1 35 (.un .not (.t 34))]
abbrev x19r9 : List AO :=
 [o1 36 (.mv (.t 9)),o1 37 (.len (.t 36)),o1 38 (.bin .sub (.t 37) (.c (.n .i64 1))),o1 15 (.mv (.t 38))]
abbrev x19r10 : List AO :=
 [o1 40 (.fa 0 (.t 11)),o1 41 (.ld 1 false (.t 40)),o1 42 (.bin .eql (.t 41) (.c (.n .i64 27))),o1 39 (.mv (.t 42))]
abbrev x19r11 : List AO :=
 [o1 43 (.mv (.t 9)),o1 44 (.mv (.t 1)),o1 45 (.bs 82 1 1 [.sl0] [(0, 1, (.t 44))]),o1 46 (.app 82 1 24 (.t 43) (.t 45)),o1 9 (.mv (.t 46))]
abbrev x19r12 : List AO :=
 [o1 48 (.fa 0 (.t 11)),o1 49 (.ld 1 false (.t 48)),o1 50 (.bin .eql (.t 49) (.c (.n .i64 28))),o1 47 (.mv (.t 50))]
abbrev x19r13 : List AO :=
 [o1 51 (.mv (.t 9)),o1 52 (.mv (.t 15)),o1 53 (.mv (.t 1)),o1 54 (.mv (.t 9)),o1 55 (.mv (.t 15)),o1 56 (.ia 1 (.t 54) (.t 55)),o1 57 (.ld 1 false (.t 56)),o1 58 (.ia 1 (.t 51) (.t 52)),⟨none, none, .ap (.st 1 (.t 58) (.t 53))⟩,o1 1 (.mv (.t 57))]
abbrev x19r14 : List AO :=
 [o1 60 (.fa 0 (.t 11)),o1 61 (.ld 1 false (.t 60)),o1 62 (.bin .eql (.t 61) (.c (.n .i64 29))),o1 59 (.mv (.t 62))]
abbrev x19m15 : List (Nat × AO) :=
 [(2, (o1 63 (.mv (.t 1)))),(2, (o1 65 (.mv (.t 0)))),(2, (o1 66 (.mv (.t 10)))),(2, (o1 67 (.mv (.t 7)))),(2, (o1 68 (.mv (.t 10)))),(2, (o1 69 (.ia 1 (.t 67) (.t 68)))),(1, (o1 64 (.ld 2 true (.t 5)))),(1, (o1 70 (.ld 1 false (.t 69)))),(2, (o1 71 (.sl 5 (.t 65) (some (.t 66)) (some (.t 70))))),(3, ⟨some 72, none, .cl (.c (.f 87 [] [])) [(.t 63), (.t 64), (.t 71)]⟩),(2, (o1 1 (.mv (.t 72))))]
abbrev x19r16 : List AO :=
 [o1 74 (.fa 0 (.t 11)),o1 75 (.ld 1 false (.t 74)),o1 76 (.bin .eql (.t 75) (.c (.n .i64 31))),o1 77 (.mv (.t 76)),⟨some 78, some (77, true), .ap (.mv (.t 0))⟩,⟨some 79, some (77, true), .ap (.mv (.t 7))⟩,⟨some 80, some (77, true), .ap (.mv (.t 10))⟩,⟨some 81, some (77, true), .ap (.ia 1 (.t 79) (.t 80))⟩,⟨some 82, some (77, true), .ap (.ld 1 false (.t 81))⟩,⟨some 83, some (77, true), .ap (.ia 5 (.t 78) (.t 82))⟩,⟨some 84, some (77, true), .ap (.fa 0 (.t 83))⟩,⟨some 85, some (77, true), .ap (.ld 1 false (.t 84))⟩,⟨some 86, some (77, true), .ap (.bin .eql (.t 85) (.c (.n .i64 29)))⟩,o1 87 (.pick (.t 77) (.t 86) (.c (.b false))),o1 73 (.mv (.t 87))]
abbrev x19m17 : List (Nat × AO) :=
 [(2, (o1 88 (.mv (.t 1)))),(2, (o1 90 (.mv (.t 0)))),(2, (o1 91 (.mv (.t 7)))),(2, (o1 92 (.mv (.t 10)))),(2, (o1 93 (.ia 1 (.t 91) (.t 92)))),(2, (o1 95 (.mv (.t 10)))),(1, (o1 89 (.ld 2 true (.t 5)))),(1, (o1 94 (.ld 1 false (.t 93)))),(2, (o1 96 (.sl 5 (.t 90) (some (.t 94)) (some (.t 95))))),(3, ⟨some 97, none, .cl (.c (.f 87 [] [])) [(.t 88), (.t 89), (.t 96)]⟩),(2, (o1 1 (.mv (.t 97))))]
abbrev x19r18 : List AO :=
 [o1 99 (.fa 0 (.t 11)),o1 100 (.ld 1 false (.t 99)),o1 101 (.bin .eql (.t 100) (.c (.n .i64 31))),o1 98 (.mv (.t 101))]
abbrev x19m19 : List (Nat × AO) :=
 [(2, (o1 102 (.mv (.t 1)))),(2, (o1 103 (.mv (.t 9)))),(2, (o1 104 (.mv (.t 15)))),(2, (o1 105 (.ia 1 (.t 103) (.t 104)))),(2, (o1 108 (.mv (.t 9)))),(2, (o1 109 (.mv (.t 15)))),(2, (o1 110 (.sl 1 (.t 108) none (some (.t 109))))),(1, (o1 106 (.ld 1 false (.t 105)))),(3, ⟨some 107, none, .cl (.c (.f 88 [] [])) [(.t 102), (.t 106)]⟩),(2, (o1 1 (.mv (.t 107)))),(2, (o1 9 (.mv (.t 110))))]
abbrev x19k20 : AC :=
 (.seq (.reg x19r10) (.cond (.t 39) (.reg x19r11) (.seq (.reg x19r12) (.cond (.t 47) (.reg x19r13) (.seq (.reg x19r14) (.cond (.t 59) (.mix x19m15) (.seq (.reg x19r16) (.cond (.t 73) (.mix x19m17) (.seq (.reg x19r18) (.cond (.t 98) (.mix x19m19) .skip))))))))))
abbrev x19r21 : List AO :=
 [o1 111 (.mv (.t 1)),o1 112 (.ld 2 true (.t 5)),o1 113 (.ld 5 true (.t 12)),o1 114 (.bs 37 5 1 [.n .i64 0, .n .i64 0, .n .i64 0, .n .i64 0, .n .u32 0] [(0, 5, (.t 113))]),⟨some 115, none, .cl (.c (.f 87 [] [])) [(.t 111), (.t 112), (.t 114)]⟩,o1 116 (.mv (.t 14)),o1 117 (.app 84 2 16 (.t 115) (.t 116)),o1 1 (.mv (.t 117))]
abbrev x19r22 : List AO :=
 [o1 118 (.mv (.t 8)),o1 119 (.ld 5 true (.t 12)),o1 120 (.bs 37 5 1 [.n .i64 0, .n .i64 0, .n .i64 0, .n .i64 0, .n .u32 0] [(0, 5, (.t 119))]),o1 121 (.app 37 5 40 (.t 118) (.t 120)),o1 8 (.mv (.t 121))]
abbrev x19k23 : AC :=
 (.seq (.reg x19r6) (.seq (.reg x19r7) (.seq (.seq (.reg x19r8) (.cond (.t 35) (.exit 1) .skip)) (.seq (.reg x19r9) (.seq (.block 2 x19k20) (.seq (.reg x19r21) (.reg x19r22)))))))
abbrev x19r24 : List AO :=
 [o1 122 (.bin .add (.t 20) (.c (.n .i64 1))),o1 20 (.mv (.t 122))]
abbrev x19b25 : AC :=
 (.seq (.reg x19r5) (.seq (.cond (.t 21) .skip (.exit 0)) (.seq (.block 1 x19k23) (.reg x19r24))))
abbrev x19k26 : AC :=
 (.loop x19b25)
abbrev x19r27 : List AO :=
 [o1 123 (.mv (.t 8)),o1 6 (.mv (.t 123))]
abbrev x19F : AF := ⟨124, (.seq (.reg x19r0) (.seq (.reg x19r1) (.seq (.reg x19r2) (.seq (.reg x19r3) (.seq (.seq (.reg x19r4) (.block 0 x19k26)) (.seq (.reg x19r27) .ret)))))), [.mv (.t 6)]⟩
theorem x19ok : afOf Tryz.prog (hintsOf Tryz.prog 55) 55 = some x19F := by kernel_rfl
/-! optimizer.fold -/
abbrev x20r0 : List AO :=
 [o1 1 (.bx 25 0 (.t 0)),o1 2 (.mv (.c .sl0))]
abbrev x20r1 : List AO :=
 [o1 3 (.mv (.c .sl0))]
abbrev x20r2 : List AO :=
 [o1 5 (.fa 1 (.t 1)),o1 6 (.ld 1 false (.t 5)),o1 7 (.mv (.c (.n .i64 0)))]
abbrev x20r3 : List AO :=
 [o1 8 (.bin .lss (.t 7) (.t 6))]
abbrev x20r4 : List AO :=
 [o1 9 (.mv (.t 7)),o1 4 (.mv (.t 9))]
abbrev x20r5 : List AO :=
 [o1 10 (.mv (.t 3)),o1 11 (.mv (.t 4)),o1 12 (.bd [.n .i64 0, .n .u32 0] [(0, 1, (.t 11))]),o1 13 (.bs 84 2 1 [.n .i64 0, .n .u32 0] [(0, 2, (.t 12))]),o1 14 (.app 84 2 16 (.t 10) (.t 13)),o1 3 (.mv (.t 14))]
abbrev x20k6 : AC :=
 (.seq (.reg x20r4) (.reg x20r5))
abbrev x20r7 : List AO :=
 [o1 15 (.bin .add (.t 7) (.c (.n .i64 1))),o1 7 (.mv (.t 15))]
abbrev x20b8 : AC :=
 (.seq (.reg x20r3) (.seq (.cond (.t 8) .skip (.exit 0)) (.seq (.block 1 x20k6) (.reg x20r7))))
abbrev x20k9 : AC :=
 (.loop x20b8)
abbrev x20r10 : List AO :=
 [o1 16 (.fa 3 (.t 1)),o1 17 (.ld 1 false (.t 16)),o1 18 (.mv (.t 3)),o1 19 (.bd [.f0, .f0] [(0, 1, (.c (.f 56 [] []))), (1, 1, (.c (.f 58 [] [])))]),⟨some 20, none, .cl (.c (.f 55 [] [])) [(.t 17), (.t 18), (.t 19)]⟩,o1 2 (.mv (.t 20))]
abbrev x20F : AF := ⟨21, (.seq (.reg x20r0) (.seq (.reg x20r1) (.seq (.seq (.reg x20r2) (.block 0 x20k9)) (.seq (.reg x20r10) .ret)))), [.mv (.t 2)]⟩
theorem x20ok : afOf Tryz.prog (hintsOf Tryz.prog 25) 25 = some x20F := by kernel_rfl
/-! optimizer.checked -/
abbrev x21r0 : List AO :=
 [o1 2 (.bx 25 0 (.t 0)),o1 4 (.al 25 [.sl0, .n .i64 0, .n .i64 0, .sl0]),o1 5 (.mv (.c (.n .i64 0)))]
abbrev x21r1 : List AO :=
 [o1 9 (.ld 4 true (.t 2)),⟨some 10, none, .cl (.c (.f 54 [] [])) [(.t 9)]⟩,o1 8 (.mv (.t 10)),o1 11 (.ext 0 (.t 8)),o1 12 (.ext 1 (.t 8)),o1 6 (.mv (.t 11)),o1 7 (.mv (.t 12))]
abbrev x21r2 : List AO :=
 [o1 13 (.mv (.t 7)),o1 14 (.bin .neq (.t 13) (.c (.n .i64 0)))]
abbrev x21r3 : List AO :=
 [o1 15 (.bd [.sl0, .n .i64 0, .n .i64 0, .sl0] []),o1 16 (.mv (.t 7)),⟨none, none, .ap (.st 4 (.t 4) (.t 15))⟩,o1 5 (.mv (.t 16))]
abbrev x21m4 : List (Nat × AO) :=
 [(2, (o1 18 (.mv (.t 1)))),(1, (o1 17 (.ld 4 true (.t 2)))),(1, (o1 19 (.ld 4 true (.t 2)))),(0, ⟨some 20, none, .cl (.t 18) [(.t 19)]⟩),(3, ⟨some 21, none, .cl (.c (.f 52 [] [])) [(.t 17), (.t 20)]⟩),(3, ⟨none, none, .ap (.st 4 (.t 4) (.t 21))⟩),(2, (o1 5 (.mv (.c (.n .i64 0)))))]
abbrev x21F : AF := ⟨22, (.seq (.reg x21r0) (.seq (.seq (.reg x21r1) (.seq (.reg x21r2) (.cond (.t 14) (.seq (.reg x21r3) .ret) .skip))) (.seq (.mix x21m4) .ret))), [.ld 4 true (.t 4), .mv (.t 5)]⟩
theorem x21ok : afOf Tryz.prog (hintsOf Tryz.prog 24) 24 = some x21F := by kernel_rfl
/-! optimizer.copied -/
abbrev x22r0 : List AO :=
 [o1 2 (.bx 25 0 (.t 0)),o1 4 (.al 25 [.sl0, .n .i64 0, .n .i64 0, .sl0])]
abbrev x22r1 : List AO :=
 [o1 5 (.fa 0 (.t 2)),o1 6 (.ld 1 false (.t 5)),⟨some 7, none, .cl (.c (.f 79 [] [])) [(.t 6)]⟩,o1 8 (.mv (.t 1)),⟨some 9, none, .cl (.c (.f 80 [] [])) [(.t 8)]⟩,o1 10 (.fa 0 (.t 2)),⟨none, none, .ap (.st 1 (.t 10) (.t 7))⟩,o1 11 (.fa 3 (.t 2)),⟨none, none, .ap (.st 1 (.t 11) (.t 9))⟩]
abbrev x22r2 : List AO :=
 [o1 12 (.ld 4 true (.t 2)),⟨none, none, .ap (.st 4 (.t 4) (.t 12))⟩]
abbrev x22F : AF := ⟨13, (.seq (.reg x22r0) (.seq (.reg x22r1) (.seq (.reg x22r2) .ret))), [.ld 4 true (.t 4)]⟩
theorem x22ok : afOf Tryz.prog (hintsOf Tryz.prog 52) 52 = some x22F := by kernel_rfl
/-! optimizer.Fold -/
abbrev x23r0 : List AO :=
 [o1 1 (.bx 25 0 (.t 0)),o1 2 (.al 25 [.sl0, .n .i64 0, .n .i64 0, .sl0]),o1 3 (.mv (.c (.n .i64 0)))]
abbrev x23r1 : List AO :=
 [o1 4 (.ld 4 true (.t 1)),⟨some 5, none, .cl (.c (.f 24 [] [])) [(.t 4), (.c (.f 25 [] []))]⟩,o1 6 (.ext 0 (.t 5)),o1 7 (.ext 1 (.t 5)),⟨none, none, .ap (.st 4 (.t 2) (.t 6))⟩,o1 3 (.mv (.t 7))]
abbrev x23F : AF := ⟨8, (.seq (.reg x23r0) (.seq (.reg x23r1) .ret)), [.ld 4 true (.t 2), .mv (.t 3)]⟩
theorem x23ok : afOf Tryz.prog (hintsOf Tryz.prog 10) 10 = some x23F := by kernel_rfl
/-! compactorref24.writes -/
/-! compactorref24.copyKnown -/
/-! compactorref24.forget -/
/-! compactorref24.bothKnown -/
/-! compactorref24.folded -/
/-! compactorref24.Fold -/
abbrev x24r0 : List AO :=
 [o1 1 (.bx 25 0 (.t 0)),o1 2 (.al 25 [.sl0, .n .i64 0, .n .i64 0, .sl0]),o1 3 (.mv (.c (.n .i64 0)))]
abbrev x24r1 : List AO :=
 [o1 20 (.ld 4 true (.t 1)),⟨some 21, none, .cl (.c (.f 26 [] [])) [(.t 20)]⟩,o1 19 (.mv (.t 21)),o1 22 (.ext 0 (.t 19)),o1 23 (.ext 1 (.t 19)),o1 4 (.mv (.t 22)),o1 5 (.mv (.t 23))]
abbrev x24r2 : List AO :=
 [o1 24 (.mv (.t 5)),o1 25 (.bin .neq (.t 24) (.c (.n .i64 0)))]
abbrev x24r3 : List AO :=
 [o1 26 (.bd [.sl0, .n .i64 0, .n .i64 0, .sl0] []),o1 27 (.mv (.t 5)),⟨none, none, .ap (.st 4 (.t 2) (.t 26))⟩,o1 3 (.mv (.t 27))]
abbrev x24r4 : List AO :=
 [o1 29 (.fa 3 (.t 1)),o1 30 (.ld 1 false (.t 29)),⟨some 31, none, .cl (.c (.f 27 [] [])) [(.t 30)]⟩,o1 28 (.mv (.t 31)),o1 32 (.ext 0 (.t 28)),o1 33 (.ext 1 (.t 28)),o1 34 (.ext 2 (.t 28)),o1 6 (.mv (.t 32)),o1 7 (.mv (.t 33)),o1 8 (.mv (.t 34))]
abbrev x24r5 : List AO :=
 [o1 35 (.ld 4 true (.t 1)),⟨some 36, none, .cl (.c (.f 28 [] [])) [(.t 35)]⟩,o1 9 (.al 25 [.sl0, .n .i64 0, .n .i64 0, .sl0]),⟨none, none, .ap (.st 4 (.t 9) (.t 36))⟩]
abbrev x24m6 : List (Nat × AO) :=
 [(2, (o1 37 (.fa 1 (.t 1)))),(1, (o1 38 (.ld 1 false (.t 37)))),(2, (o1 40 (.fa 1 (.t 1)))),(1, (o1 41 (.ld 1 false (.t 40))))]
abbrev x24t7 : AT :=
 (.alt (o1 39 (.ms 4 1 1 [.b false] (.t 38) (.t 38))) (.alt (o1 42 (.ms 35 1 4 [.n .u32 0] (.t 41) (.t 41))) (.alt (o1 43 (.bd [.sl0, .sl0] [(0, 1, (.t 39)), (1, 1, (.t 42))])) (.alt (o1 10 (.al 50 [.sl0, .sl0])) (.alt ⟨none, none, .ap (.st 2 (.t 10) (.t 43))⟩ .fin .none) .none) (.alt (o1 10 (.al 50 [.sl0, .sl0])) (.alt (o1 43 (.bd [.sl0, .sl0] [(0, 1, (.t 39)), (1, 1, (.t 42))])) (.alt ⟨none, none, .ap (.st 2 (.t 10) (.t 43))⟩ .fin .none) .none) .none)) (.alt (o1 10 (.al 50 [.sl0, .sl0])) (.alt (o1 42 (.ms 35 1 4 [.n .u32 0] (.t 41) (.t 41))) (.alt (o1 43 (.bd [.sl0, .sl0] [(0, 1, (.t 39)), (1, 1, (.t 42))])) (.alt ⟨none, none, .ap (.st 2 (.t 10) (.t 43))⟩ .fin .none) .none) .none) .none)) (.alt (o1 42 (.ms 35 1 4 [.n .u32 0] (.t 41) (.t 41))) (.alt (o1 39 (.ms 4 1 1 [.b false] (.t 38) (.t 38))) (.alt (o1 43 (.bd [.sl0, .sl0] [(0, 1, (.t 39)), (1, 1, (.t 42))])) (.alt (o1 10 (.al 50 [.sl0, .sl0])) (.alt ⟨none, none, .ap (.st 2 (.t 10) (.t 43))⟩ .fin .none) .none) (.alt (o1 10 (.al 50 [.sl0, .sl0])) (.alt (o1 43 (.bd [.sl0, .sl0] [(0, 1, (.t 39)), (1, 1, (.t 42))])) (.alt ⟨none, none, .ap (.st 2 (.t 10) (.t 43))⟩ .fin .none) .none) .none)) (.alt (o1 10 (.al 50 [.sl0, .sl0])) (.alt (o1 39 (.ms 4 1 1 [.b false] (.t 38) (.t 38))) (.alt (o1 43 (.bd [.sl0, .sl0] [(0, 1, (.t 39)), (1, 1, (.t 42))])) (.alt ⟨none, none, .ap (.st 2 (.t 10) (.t 43))⟩ .fin .none) .none) .none) .none)) (.alt (o1 10 (.al 50 [.sl0, .sl0])) (.alt (o1 39 (.ms 4 1 1 [.b false] (.t 38) (.t 38))) (.alt (o1 42 (.ms 35 1 4 [.n .u32 0] (.t 41) (.t 41))) (.alt (o1 43 (.bd [.sl0, .sl0] [(0, 1, (.t 39)), (1, 1, (.t 42))])) (.alt ⟨none, none, .ap (.st 2 (.t 10) (.t 43))⟩ .fin .none) .none) .none) (.alt (o1 42 (.ms 35 1 4 [.n .u32 0] (.t 41) (.t 41))) (.alt (o1 39 (.ms 4 1 1 [.b false] (.t 38) (.t 38))) (.alt (o1 43 (.bd [.sl0, .sl0] [(0, 1, (.t 39)), (1, 1, (.t 42))])) (.alt ⟨none, none, .ap (.st 2 (.t 10) (.t 43))⟩ .fin .none) .none) .none) .none)) .none)))
abbrev x24r8 : List AO :=
 [o1 11 (.mv (.c (.n .i64 0)))]
abbrev x24r9 : List AO :=
 [o1 44 (.mv (.t 11)),o1 45 (.fa 1 (.t 1)),o1 46 (.ld 1 false (.t 45)),o1 47 (.bin .lss (.t 44) (.t 46))]
abbrev x24r10 : List AO :=
 [o1 50 (.fa 0 (.t 10)),o1 51 (.ld 1 false (.t 50)),o1 52 (.mv (.t 11)),o1 53 (.ia 1 (.t 51) (.t 52)),⟨none, none, .ap (.st 1 (.t 53) (.c (.b true)))⟩]
abbrev x24k11 : AC :=
 (.reg x24r10)
abbrev x24r12 : List AO :=
 [o1 48 (.mv (.t 11)),o1 49 (.bin .add (.t 48) (.c (.n .i64 1))),o1 11 (.mv (.t 49))]
abbrev x24b13 : AC :=
 (.seq (.seq (.reg x24r9) (.cond (.t 47) .skip (.exit 0))) (.seq (.block 1 x24k11) (.reg x24r12)))
abbrev x24k14 : AC :=
 (.loop x24b13)
abbrev x24r15 : List AO :=
 [o1 12 (.mv (.c .sl0))]
abbrev x24r16 : List AO :=
 [o1 13 (.mv (.c (.n .i64 0)))]
abbrev x24r17 : List AO :=
 [o1 54 (.mv (.t 13)),o1 55 (.fa 3 (.t 1)),o1 56 (.ld 1 false (.t 55)),o1 57 (.len (.t 56)),o1 58 (.bin .lss (.t 54) (.t 57))]
abbrev x24r18 : List AO :=
 [o1 61 (.fa 3 (.t 1)),o1 62 (.ld 1 false (.t 61)),o1 63 (.mv (.t 13)),o1 64 (.ia 5 (.t 62) (.t 63)),o1 65 (.ld 5 true (.t 64)),o1 14 (.al 37 [.n .i64 0, .n .i64 0, .n .i64 0, .n .i64 0, .n .u32 0]),⟨none, none, .ap (.st 5 (.t 14) (.t 65))⟩]
abbrev x24r19 : List AO :=
 [o1 66 (.mv (.t 12)),o1 67 (.len (.t 66)),o1 15 (.mv (.t 67))]
abbrev x24r20 : List AO :=
 [o1 68 (.fa 0 (.t 14)),o1 69 (.ld 1 false (.t 68))]
abbrev x24r21 : List AO :=
 [o1 99 (.bin .eql (.t 69) (.c (.n .i64 27))),o1 98 (.mv (.t 99))]
abbrev x24r22 : List AO :=
 [o1 100 (.mv (.t 12)),o1 101 (.ld 2 true (.t 10)),⟨some 102, none, .cl (.c (.f 29 [] [])) [(.t 101)]⟩,o1 103 (.bs 50 2 1 [.sl0, .sl0] [(0, 2, (.t 102))]),o1 104 (.app 50 2 48 (.t 100) (.t 103)),o1 12 (.mv (.t 104))]
abbrev x24r23 : List AO :=
 [o1 106 (.bin .eql (.t 69) (.c (.n .i64 28))),o1 105 (.mv (.t 106))]
abbrev x24m24 : List (Nat × AO) :=
 [(2, (o1 107 (.mv (.t 12)))),(2, (o1 108 (.mv (.t 15)))),(2, (o1 109 (.bin .sub (.t 108) (.c (.n .i64 1))))),(2, (o1 111 (.mv (.t 12)))),(2, (o1 112 (.mv (.t 15)))),(2, (o1 113 (.bin .sub (.t 112) (.c (.n .i64 1))))),(2, (o1 114 (.ia 2 (.t 111) (.t 113)))),(1, (o1 110 (.ld 2 true (.t 10)))),(1, (o1 115 (.ld 2 true (.t 114)))),(0, ⟨some 116, none, .cl (.c (.f 29 [] [])) [(.t 115)]⟩),(2, (o1 117 (.ia 2 (.t 107) (.t 109)))),(3, ⟨none, none, .ap (.st 2 (.t 117) (.t 110))⟩),(3, ⟨none, none, .ap (.st 2 (.t 10) (.t 116))⟩)]
abbrev x24r25 : List AO :=
 [o1 119 (.bin .eql (.t 69) (.c (.n .i64 29))),o1 118 (.mv (.t 119))]
abbrev x24m26 : List (Nat × AO) :=
 [(2, (o1 122 (.mv (.t 13)))),(2, (o1 123 (.mv (.t 6)))),(2, (o1 124 (.mv (.t 13)))),(2, (o1 125 (.ia 1 (.t 123) (.t 124)))),(1, (o1 120 (.ld 2 true (.t 10)))),(1, (o1 121 (.ld 4 true (.t 1)))),(1, (o1 126 (.ld 1 false (.t 125)))),(0, ⟨some 127, none, .cl (.c (.f 31 [] [])) [(.t 121), (.t 122), (.t 126)]⟩),(3, ⟨some 128, none, .cl (.c (.f 30 [] [])) [(.t 120), (.t 127)]⟩),(3, ⟨none, none, .ap (.st 2 (.t 10) (.t 128))⟩)]
abbrev x24r27 : List AO :=
 [o1 130 (.bin .eql (.t 69) (.c (.n .i64 31))),o1 129 (.mv (.t 130))]
abbrev x24m28 : List (Nat × AO) :=
 [(2, (o1 131 (.fa 3 (.t 1)))),(2, (o1 133 (.mv (.t 6)))),(2, (o1 134 (.mv (.t 13)))),(2, (o1 135 (.ia 1 (.t 133) (.t 134)))),(1, (o1 132 (.ld 1 false (.t 131)))),(1, (o1 136 (.ld 1 false (.t 135)))),(2, (o1 137 (.ia 5 (.t 132) (.t 136)))),(2, (o1 138 (.fa 0 (.t 137)))),(1, (o1 139 (.ld 1 false (.t 138)))),(2, (o1 140 (.bin .eql (.t 139) (.c (.n .i64 29)))))]
abbrev x24m29 : List (Nat × AO) :=
 [(2, (o1 143 (.mv (.t 6)))),(2, (o1 144 (.mv (.t 13)))),(2, (o1 145 (.ia 1 (.t 143) (.t 144)))),(2, (o1 147 (.mv (.t 13)))),(1, (o1 141 (.ld 2 true (.t 10)))),(1, (o1 142 (.ld 4 true (.t 1)))),(1, (o1 146 (.ld 1 false (.t 145)))),(0, ⟨some 148, none, .cl (.c (.f 31 [] [])) [(.t 142), (.t 146), (.t 147)]⟩),(3, ⟨some 149, none, .cl (.c (.f 30 [] [])) [(.t 141), (.t 148)]⟩),(3, ⟨none, none, .ap (.st 2 (.t 10) (.t 149))⟩)]
abbrev x24m30 : List (Nat × AO) :=
 [(2, (o1 151 (.mv (.t 12)))),(2, (o1 152 (.mv (.t 15)))),(2, (o1 153 (.bin .sub (.t 152) (.c (.n .i64 1))))),(2, (o1 154 (.ia 2 (.t 151) (.t 153)))),(1, (o1 150 (.ld 2 true (.t 10)))),(1, (o1 155 (.ld 2 true (.t 154)))),(3, ⟨some 156, none, .cl (.c (.f 32 [] [])) [(.t 150), (.t 155)]⟩),(3, ⟨none, none, .ap (.st 2 (.t 10) (.t 156))⟩)]
abbrev x24r31 : List AO :=
 [o1 157 (.mv (.t 12)),o1 158 (.mv (.t 15)),o1 159 (.bin .sub (.t 158) (.c (.n .i64 1))),o1 160 (.sl 2 (.t 157) none (some (.t 159))),o1 12 (.mv (.t 160))]
abbrev x24r32 : List AO :=
 [o1 70 (.ld 5 true (.t 14)),o1 71 (.ld 2 true (.t 10)),⟨some 72, none, .cl (.c (.f 33 [] [])) [(.t 70), (.t 71)]⟩,o1 16 (.al 37 [.n .i64 0, .n .i64 0, .n .i64 0, .n .i64 0, .n .u32 0]),⟨none, none, .ap (.st 5 (.t 16) (.t 72))⟩]
abbrev x24r33 : List AO :=
 [o1 73 (.fa 3 (.t 9)),o1 74 (.ld 1 false (.t 73)),o1 75 (.mv (.t 13)),o1 76 (.ld 5 true (.t 16)),o1 77 (.ia 5 (.t 74) (.t 75)),⟨none, none, .ap (.st 5 (.t 77) (.t 76))⟩]
abbrev x24r34 : List AO :=
 [o1 79 (.ld 5 true (.t 16)),⟨some 80, none, .cl (.c (.f 34 [] [])) [(.t 79)]⟩,o1 78 (.mv (.t 80)),o1 81 (.ext 0 (.t 78)),o1 82 (.ext 1 (.t 78)),o1 17 (.mv (.t 81)),o1 18 (.mv (.t 82))]
abbrev x24r35 : List AO :=
 [o1 83 (.mv (.t 18)),o1 84 (.bin .geq (.t 83) (.c (.n .i64 0)))]
abbrev x24m36 : List (Nat × AO) :=
 [(2, (o1 85 (.fa 0 (.t 10)))),(2, (o1 87 (.mv (.t 18)))),(2, (o1 88 (.fa 1 (.t 10)))),(2, (o1 90 (.mv (.t 18)))),(2, (o1 91 (.fa 0 (.t 16)))),(2, (o1 94 (.fa 4 (.t 16)))),(1, (o1 86 (.ld 1 false (.t 85)))),(1, (o1 89 (.ld 1 false (.t 88)))),(1, (o1 92 (.ld 1 false (.t 91)))),(2, (o1 93 (.bin .eql (.t 92) (.c (.n .i64 0))))),(2, (o1 96 (.ia 1 (.t 86) (.t 87)))),(1, (o1 95 (.ld 1 false (.t 94)))),(0, ⟨none, none, .ap (.st 1 (.t 96) (.t 93))⟩),(2, (o1 97 (.ia 1 (.t 89) (.t 90)))),(3, ⟨none, none, .ap (.st 1 (.t 97) (.t 95))⟩)]
abbrev x24k37 : AC :=
 (.seq (.reg x24r21) (.cond (.t 98) (.reg x24r22) (.seq (.reg x24r23) (.cond (.t 105) (.mix x24m24) (.seq (.reg x24r25) (.cond (.t 118) (.mix x24m26) (.seq (.reg x24r27) (.cond (.t 129) (.seq (.mix x24m28) (.cond (.t 140) (.mix x24m29) (.seq (.mix x24m30) (.reg x24r31)))) (.seq (.reg x24r32) (.seq (.reg x24r33) (.seq (.reg x24r34) (.seq (.reg x24r35) (.cond (.t 84) (.mix x24m36) .skip)))))))))))))
abbrev x24k38 : AC :=
 (.seq (.reg x24r18) (.seq (.reg x24r19) (.seq (.reg x24r20) (.block 4 x24k37))))
abbrev x24r39 : List AO :=
 [o1 59 (.mv (.t 13)),o1 60 (.bin .add (.t 59) (.c (.n .i64 1))),o1 13 (.mv (.t 60))]
abbrev x24b40 : AC :=
 (.seq (.seq (.reg x24r17) (.cond (.t 58) .skip (.exit 2))) (.seq (.block 3 x24k38) (.reg x24r39)))
abbrev x24k41 : AC :=
 (.loop x24b40)
abbrev x24r42 : List AO :=
 [o1 161 (.ld 4 true (.t 9)),⟨none, none, .ap (.st 4 (.t 2) (.t 161))⟩,o1 3 (.mv (.c (.n .i64 0)))]
abbrev x24F : AF := ⟨162, (.seq (.reg x24r0) (.seq (.seq (.reg x24r1) (.seq (.reg x24r2) (.cond (.t 25) (.seq (.reg x24r3) .ret) .skip))) (.seq (.reg x24r4) (.seq (.reg x24r5) (.seq (.frk x24m6 x24t7) (.seq (.seq (.reg x24r8) (.block 0 x24k14)) (.seq (.reg x24r15) (.seq (.seq (.reg x24r16) (.block 2 x24k41)) (.seq (.reg x24r42) .ret))))))))), [.ld 4 true (.t 2), .mv (.t 3)]⟩
theorem x24ok : afOf Tryz.prog (hintsOf Tryz.prog 11) 11 = some x24F := by kernel_rfl
/-! compactorref23.Uses -/
abbrev x25r0 : List AO :=
 [o1 1 (.bx 37 0 (.t 0)),o1 2 (.mv (.c .sl0)),o1 3 (.mv (.c (.n .i64 0)))]
abbrev x25r1 : List AO :=
 [o1 10 (.fa 0 (.t 1)),o1 11 (.ld 1 false (.t 10)),⟨some 12, none, .cl (.c (.f 62 [] [])) [(.t 11)]⟩,o1 9 (.mv (.t 12)),o1 13 (.ext 0 (.t 9)),o1 14 (.ext 1 (.t 9)),o1 15 (.ext 2 (.t 9)),o1 16 (.ext 3 (.t 9)),o1 4 (.mv (.t 13)),o1 5 (.mv (.t 14)),o1 6 (.mv (.t 15)),o1 7 (.mv (.t 16))]
abbrev x25r2 : List AO :=
 [o1 8 (.mv (.c .sl0))]
abbrev x25r3 : List AO :=
 [o1 17 (.mv (.t 5))]
abbrev x25r4 : List AO :=
 [o1 18 (.mv (.t 8)),o1 19 (.fa 2 (.t 1)),o1 20 (.ld 1 false (.t 19)),o1 21 (.bs 3 1 1 [.n .i64 0] [(0, 1, (.t 20))]),o1 22 (.app 3 1 8 (.t 18) (.t 21)),o1 8 (.mv (.t 22))]
abbrev x25r5 : List AO :=
 [o1 23 (.mv (.t 6))]
abbrev x25r6 : List AO :=
 [o1 24 (.mv (.t 8)),o1 25 (.fa 3 (.t 1)),o1 26 (.ld 1 false (.t 25)),o1 27 (.bs 3 1 1 [.n .i64 0] [(0, 1, (.t 26))]),o1 28 (.app 3 1 8 (.t 24) (.t 27)),o1 8 (.mv (.t 28))]
abbrev x25r7 : List AO :=
 [o1 29 (.mv (.t 4))]
abbrev x25m8 : List (Nat × AO) :=
 [(2, (o1 30 (.mv (.t 8)))),(2, (o1 31 (.fa 1 (.t 1)))),(2, (o1 2 (.mv (.t 30)))),(1, (o1 32 (.ld 1 false (.t 31)))),(2, (o1 3 (.mv (.t 32))))]
abbrev x25r9 : List AO :=
 [o1 33 (.mv (.t 8)),o1 2 (.mv (.t 33)),o1 3 (.mv (.c (.n .i64 (-1))))]
abbrev x25F : AF := ⟨34, (.seq (.reg x25r0) (.seq (.reg x25r1) (.seq (.reg x25r2) (.seq (.seq (.reg x25r3) (.cond (.t 17) (.reg x25r4) .skip)) (.seq (.seq (.reg x25r5) (.cond (.t 23) (.reg x25r6) .skip)) (.seq (.seq (.reg x25r7) (.cond (.t 29) (.seq (.mix x25m8) .ret) .skip)) (.seq (.reg x25r9) .ret))))))), [.mv (.t 2), .mv (.t 3)]⟩
theorem x25ok : afOf Tryz.prog (hintsOf Tryz.prog 34) 34 = some x25F := by kernel_rfl
/-! compactorref23.Parts -/
/-! slices.Clone[[]api.Array,api.Array] -/
abbrev x26r0 : List AO :=
 [o1 2 (.mv (.c .sl0))]
abbrev x26r1 : List AO :=
 [o1 3 (.mv (.t 0)),⟨some 4, none, .sn false (.t 3)⟩]
abbrev x26r2 : List AO :=
 [o1 2 (.mv (.c .sl0))]
abbrev x26r3 : List AO :=
 [o1 5 (.bs 93 2 0 [] []),o1 6 (.mv (.t 0)),o1 7 (.app 93 2 16 (.t 5) (.t 6)),o1 2 (.mv (.t 7))]
abbrev x26F : AF := ⟨8, (.seq (.reg x26r0) (.seq (.seq (.reg x26r1) (.cond (.t 4) (.seq (.reg x26r2) .ret) .skip)) (.seq (.reg x26r3) .ret))), [.mv (.t 2)]⟩
theorem x26ok : afOf Tryz.prog (hintsOf Tryz.prog 79) 79 = some x26F := by kernel_rfl
/-! slices.Clone[[]api.RegInstr,api.RegInstr] -/
abbrev x27r0 : List AO :=
 [o1 2 (.mv (.c .sl0))]
abbrev x27r1 : List AO :=
 [o1 3 (.mv (.t 0)),⟨some 4, none, .sn false (.t 3)⟩]
abbrev x27r2 : List AO :=
 [o1 2 (.mv (.c .sl0))]
abbrev x27r3 : List AO :=
 [o1 5 (.bs 37 5 0 [] []),o1 6 (.mv (.t 0)),o1 7 (.app 37 5 40 (.t 5) (.t 6)),o1 2 (.mv (.t 7))]
abbrev x27F : AF := ⟨8, (.seq (.reg x27r0) (.seq (.seq (.reg x27r1) (.cond (.t 4) (.seq (.reg x27r2) .ret) .skip)) (.seq (.reg x27r3) .ret))), [.mv (.t 2)]⟩
theorem x27ok : afOf Tryz.prog (hintsOf Tryz.prog 80) 80 = some x27F := by kernel_rfl
/-! compactorref23.Same -/
abbrev x28r0 : List AO :=
 [o1 2 (.bx 25 0 (.t 0)),o1 3 (.bx 25 0 (.t 1)),o1 4 (.mv (.c (.b false)))]
abbrev x28r1 : List AO :=
 [o1 6 (.fa 1 (.t 2)),o1 7 (.ld 1 false (.t 6)),o1 8 (.fa 1 (.t 3)),o1 9 (.ld 1 false (.t 8)),o1 10 (.bin .neq (.t 7) (.t 9)),o1 11 (.mv (.t 10)),⟨some 12, some (11, false), .ap (.fa 2 (.t 2))⟩,⟨some 13, some (11, false), .ap (.ld 1 false (.t 12))⟩,⟨some 14, some (11, false), .ap (.fa 2 (.t 3))⟩,⟨some 15, some (11, false), .ap (.ld 1 false (.t 14))⟩,⟨some 16, some (11, false), .ap (.bin .neq (.t 13) (.t 15))⟩,o1 17 (.pick (.t 11) (.c (.b true)) (.t 16)),o1 18 (.mv (.t 17)),⟨some 19, some (18, false), .ap (.fa 0 (.t 2))⟩,⟨some 20, some (18, false), .ap (.ld 1 false (.t 19))⟩,⟨some 21, some (18, false), .ap (.fa 0 (.t 3))⟩,⟨some 22, some (18, false), .ap (.ld 1 false (.t 21))⟩,⟨some 23, some (18, false), .cl (.c (.f 35 [] [])) [(.t 20), (.t 22)]⟩,⟨some 24, some (18, false), .ap (.un .not (.t 23))⟩,o1 25 (.pick (.t 18) (.c (.b true)) (.t 24)),o1 26 (.mv (.t 25)),⟨some 27, some (26, false), .ap (.fa 3 (.t 2))⟩,⟨some 28, some (26, false), .ap (.ld 1 false (.t 27))⟩,⟨some 29, some (26, false), .ap (.len (.t 28))⟩,⟨some 30, some (26, false), .ap (.fa 3 (.t 3))⟩,⟨some 31, some (26, false), .ap (.ld 1 false (.t 30))⟩,⟨some 32, some (26, false), .ap (.len (.t 31))⟩,⟨some 33, some (26, false), .ap (.bin .neq (.t 29) (.t 32))⟩,o1 34 (.pick (.t 26) (.c (.b true)) (.t 33))]
abbrev x28r2 : List AO :=
 [o1 4 (.mv (.c (.b false)))]
abbrev x28r3 : List AO :=
 [o1 5 (.mv (.c (.n .i64 0)))]
abbrev x28r4 : List AO :=
 [o1 35 (.mv (.t 5)),o1 36 (.fa 3 (.t 2)),o1 37 (.ld 1 false (.t 36)),o1 38 (.len (.t 37)),o1 39 (.bin .lss (.t 35) (.t 38))]
abbrev x28m5 : List (Nat × AO) :=
 [(2, (o1 42 (.fa 3 (.t 2)))),(2, (o1 44 (.mv (.t 5)))),(2, (o1 47 (.fa 3 (.t 3)))),(2, (o1 49 (.mv (.t 5)))),(1, (o1 43 (.ld 1 false (.t 42)))),(2, (o1 45 (.ia 5 (.t 43) (.t 44)))),(1, (o1 46 (.ld 5 true (.t 45)))),(1, (o1 48 (.ld 1 false (.t 47)))),(2, (o1 50 (.ia 5 (.t 48) (.t 49)))),(1, (o1 51 (.ld 5 true (.t 50)))),(2, (o1 52 (.eq true (.st [(0, 1, .n), (1, 1, .n), (2, 1, .n), (3, 1, .n), (4, 1, .n)]) (.t 46) (.t 51))))]
abbrev x28r6 : List AO :=
 [o1 4 (.mv (.c (.b false)))]
abbrev x28k7 : AC :=
 (.seq (.mix x28m5) (.cond (.t 52) (.seq (.reg x28r6) .ret) .skip))
abbrev x28r8 : List AO :=
 [o1 40 (.mv (.t 5)),o1 41 (.bin .add (.t 40) (.c (.n .i64 1))),o1 5 (.mv (.t 41))]
abbrev x28b9 : AC :=
 (.seq (.seq (.reg x28r4) (.cond (.t 39) .skip (.exit 0))) (.seq (.block 1 x28k7) (.reg x28r8)))
abbrev x28k10 : AC :=
 (.loop x28b9)
abbrev x28r11 : List AO :=
 [o1 4 (.mv (.c (.b true)))]
abbrev x28F : AF := ⟨53, (.seq (.reg x28r0) (.seq (.seq (.reg x28r1) (.cond (.t 34) (.seq (.reg x28r2) .ret) .skip)) (.seq (.seq (.reg x28r3) (.block 0 x28k10)) (.seq (.reg x28r11) .ret)))), [.mv (.t 4)]⟩
theorem x28ok : afOf Tryz.prog (hintsOf Tryz.prog 12) 12 = some x28F := by kernel_rfl
/-! compactorref15.SameArrays -/
abbrev x29r0 : List AO :=
 [o1 4 (.mv (.c (.b false)))]
abbrev x29r1 : List AO :=
 [o1 6 (.mv (.t 0)),o1 7 (.len (.t 6)),o1 8 (.mv (.t 1)),o1 9 (.len (.t 8)),o1 10 (.bin .neq (.t 7) (.t 9))]
abbrev x29r2 : List AO :=
 [o1 4 (.mv (.c (.b false)))]
abbrev x29r3 : List AO :=
 [o1 5 (.mv (.c (.n .i64 0)))]
abbrev x29r4 : List AO :=
 [o1 11 (.mv (.t 5)),o1 12 (.mv (.t 0)),o1 13 (.len (.t 12)),o1 14 (.bin .lss (.t 11) (.t 13))]
abbrev x29m5 : List (Nat × AO) :=
 [(2, (o1 17 (.mv (.t 0)))),(2, (o1 18 (.mv (.t 5)))),(2, (o1 19 (.ia 2 (.t 17) (.t 18)))),(2, (o1 21 (.mv (.t 1)))),(2, (o1 22 (.mv (.t 5)))),(2, (o1 23 (.ia 2 (.t 21) (.t 22)))),(1, (o1 20 (.ld 2 true (.t 19)))),(1, (o1 24 (.ld 2 true (.t 23)))),(2, (o1 25 (.eq true (.st [(0, 1, .b), (1, 1, .n)]) (.t 20) (.t 24))))]
abbrev x29r6 : List AO :=
 [o1 4 (.mv (.c (.b false)))]
abbrev x29k7 : AC :=
 (.seq (.mix x29m5) (.cond (.t 25) (.seq (.reg x29r6) .ret) .skip))
abbrev x29r8 : List AO :=
 [o1 15 (.mv (.t 5)),o1 16 (.bin .add (.t 15) (.c (.n .i64 1))),o1 5 (.mv (.t 16))]
abbrev x29b9 : AC :=
 (.seq (.seq (.reg x29r4) (.cond (.t 14) .skip (.exit 0))) (.seq (.block 1 x29k7) (.reg x29r8)))
abbrev x29k10 : AC :=
 (.loop x29b9)
abbrev x29r11 : List AO :=
 [o1 4 (.mv (.c (.b true)))]
abbrev x29F : AF := ⟨26, (.seq (.reg x29r0) (.seq (.seq (.reg x29r1) (.cond (.t 10) (.seq (.reg x29r2) .ret) .skip)) (.seq (.seq (.reg x29r3) (.block 0 x29k10)) (.seq (.reg x29r11) .ret)))), [.mv (.t 4)]⟩
theorem x29ok : afOf Tryz.prog (hintsOf Tryz.prog 35) 35 = some x29F := by kernel_rfl
/-! compactorref24.Few -/
abbrev x30r0 : List AO :=
 [o1 1 (.bx 25 0 (.t 0)),o1 2 (.mv (.c (.b false)))]
abbrev x30r1 : List AO :=
 [o1 3 (.ld 4 true (.t 1)),⟨some 4, none, .cl (.c (.f 21 [] [])) [(.t 3)]⟩,o1 5 (.mv (.t 4)),⟨some 6, some (5, true), .ap (.fa 1 (.t 1))⟩,⟨some 7, some (5, true), .ap (.ld 1 false (.t 6))⟩,⟨some 8, some (5, true), .ap (.bin .leq (.t 7) (.c (.n .i64 60)))⟩,⟨some 9, some (5, true), .ap (.mv (.t 8))⟩,⟨some 10, some (9, false), .ap (.fa 1 (.t 1))⟩,⟨some 11, some (9, false), .ap (.ld 1 false (.t 10))⟩,⟨some 12, some (9, false), .ap (.bin .gtr (.t 11) (.c (.n .i64 1024)))⟩,⟨some 13, some (5, true), .ap (.pick (.t 9) (.c (.b true)) (.t 12))⟩,o1 14 (.pick (.t 5) (.t 13) (.c (.b false))),o1 2 (.mv (.t 14))]
abbrev x30F : AF := ⟨15, (.seq (.reg x30r0) (.seq (.reg x30r1) .ret)), [.mv (.t 2)]⟩
theorem x30ok : afOf Tryz.prog (hintsOf Tryz.prog 8) 8 = some x30F := by kernel_rfl
/-! compactorref23.Few -/
abbrev x31r0 : List AO :=
 [o1 1 (.bx 25 0 (.t 0)),o1 2 (.mv (.c (.b false)))]
abbrev x31r1 : List AO :=
 [o1 3 (.fa 0 (.t 1)),o1 4 (.ld 1 false (.t 3)),o1 5 (.len (.t 4)),o1 6 (.bin .leq (.t 5) (.c (.n .i64 20))),o1 7 (.mv (.t 6)),⟨some 8, some (7, true), .ap (.fa 3 (.t 1))⟩,⟨some 9, some (7, true), .ap (.ld 1 false (.t 8))⟩,⟨some 10, some (7, true), .ap (.len (.t 9))⟩,⟨some 11, some (7, true), .ap (.bin .leq (.t 10) (.c (.n .i64 300)))⟩,o1 12 (.pick (.t 7) (.t 11) (.c (.b false))),o1 2 (.mv (.t 12))]
abbrev x31F : AF := ⟨13, (.seq (.reg x31r0) (.seq (.reg x31r1) .ret)), [.mv (.t 2)]⟩
theorem x31ok : afOf Tryz.prog (hintsOf Tryz.prog 21) 21 = some x31F := by kernel_rfl
/-! compactorlaw24.OptimizerFolds -/
abbrev x32r0 : List AO :=
 [o1 1 (.bx 25 0 (.t 0)),o1 2 (.mv (.c (.b false)))]
abbrev x32r1 : List AO :=
 [o1 7 (.ld 4 true (.t 1)),⟨some 8, none, .cl (.c (.f 8 [] [])) [(.t 7)]⟩,o1 9 (.un .not (.t 8))]
abbrev x32r2 : List AO :=
 [⟨some 10, none, .cl (.c (.f 9 [] [])) []⟩,o1 2 (.mv (.t 10))]
abbrev x32r3 : List AO :=
 [o1 12 (.ld 4 true (.t 1)),⟨some 13, none, .cl (.c (.f 10 [] [])) [(.t 12)]⟩,o1 11 (.mv (.t 13)),o1 14 (.ext 0 (.t 11)),o1 15 (.ext 1 (.t 11)),o1 3 (.al 25 [.sl0, .n .i64 0, .n .i64 0, .sl0]),⟨none, none, .ap (.st 4 (.t 3) (.t 14))⟩,o1 4 (.mv (.t 15))]
abbrev x32r4 : List AO :=
 [o1 17 (.ld 4 true (.t 1)),⟨some 18, none, .cl (.c (.f 11 [] [])) [(.t 17)]⟩,o1 16 (.mv (.t 18)),o1 19 (.ext 0 (.t 16)),o1 20 (.ext 1 (.t 16)),o1 5 (.al 25 [.sl0, .n .i64 0, .n .i64 0, .sl0]),⟨none, none, .ap (.st 4 (.t 5) (.t 19))⟩,o1 6 (.mv (.t 20))]
abbrev x32r5 : List AO :=
 [⟨some 21, none, .cl (.c (.f 9 [] [])) []⟩,o1 22 (.mv (.t 21)),⟨some 23, some (22, true), .ap (.ld 4 true (.t 3))⟩,⟨some 24, some (22, true), .ap (.ld 4 true (.t 5))⟩,⟨some 25, some (22, true), .cl (.c (.f 12 [] [])) [(.t 23), (.t 24)]⟩,o1 26 (.pick (.t 22) (.t 25) (.c (.b false))),o1 27 (.mv (.t 26)),⟨some 28, some (27, true), .ap (.mv (.t 4))⟩,⟨some 29, some (27, true), .ap (.mv (.t 6))⟩,⟨some 30, some (27, true), .ap (.bin .eql (.t 28) (.t 29))⟩,o1 31 (.pick (.t 27) (.t 30) (.c (.b false))),o1 2 (.mv (.t 31))]
abbrev x32F : AF := ⟨32, (.seq (.reg x32r0) (.seq (.seq (.reg x32r1) (.cond (.t 9) (.seq (.reg x32r2) .ret) .skip)) (.seq (.reg x32r3) (.seq (.reg x32r4) (.seq (.reg x32r5) .ret))))), [.mv (.t 2)]⟩
theorem x32ok : afOf Tryz.prog (hintsOf Tryz.prog 3) 3 = some x32F := by kernel_rfl
/-! lower.shapes -/
end Go.Proofs.YtidhfimbnjaceaaGreat

namespace Go.Proofs.YtidhfimbnjaceaaGreat
open Go.RowKit
set_option linter.unusedVariables false
/-! optimizer.Copies -/
abbrev x33r0 : List AO :=
 [o1 1 (.bx 25 0 (.t 0)),o1 2 (.al 25 [.sl0, .n .i64 0, .n .i64 0, .sl0]),o1 3 (.mv (.c (.n .i64 0)))]
abbrev x33r1 : List AO :=
 [o1 4 (.ld 4 true (.t 1)),⟨some 5, none, .cl (.c (.f 24 [] [])) [(.t 4), (.c (.f 36 [] []))]⟩,o1 6 (.ext 0 (.t 5)),o1 7 (.ext 1 (.t 5)),⟨none, none, .ap (.st 4 (.t 2) (.t 6))⟩,o1 3 (.mv (.t 7))]
abbrev x33F : AF := ⟨8, (.seq (.reg x33r0) (.seq (.reg x33r1) .ret)), [.ld 4 true (.t 2), .mv (.t 3)]⟩
theorem x33ok : afOf Tryz.prog (hintsOf Tryz.prog 13) 13 = some x33F := by kernel_rfl
/-! optimizer.copies -/
abbrev x34r0 : List AO :=
 [o1 1 (.bx 25 0 (.t 0)),o1 2 (.mv (.c .sl0))]
abbrev x34r1 : List AO :=
 [o1 3 (.fa 3 (.t 1)),o1 4 (.ld 1 false (.t 3)),o1 5 (.bd [.f0, .f0] [(0, 1, (.c (.f 65 [] []))), (1, 1, (.c (.f 66 [] [])))]),⟨some 6, none, .cl (.c (.f 64 [] [])) [(.t 4), (.c .sl0), (.t 5)]⟩,o1 2 (.mv (.t 6))]
abbrev x34F : AF := ⟨7, (.seq (.reg x34r0) (.seq (.reg x34r1) .ret)), [.mv (.t 2)]⟩
theorem x34ok : afOf Tryz.prog (hintsOf Tryz.prog 36) 36 = some x34F := by kernel_rfl
/-! optimizer.walk[optimizer.same] -/
abbrev x35r0 : List AO :=
 [o1 5 (.bx 108 0 (.t 2)),o1 6 (.mv (.c .sl0))]
abbrev x35r1 : List AO :=
 [o1 16 (.mv (.t 0)),⟨some 17, none, .cl (.c (.f 86 [] [])) [(.t 16)]⟩,o1 7 (.mv (.t 17))]
abbrev x35r2 : List AO :=
 [o1 8 (.mv (.c .sl0))]
abbrev x35r3 : List AO :=
 [o1 9 (.mv (.c .sl0))]
abbrev x35r4 : List AO :=
 [o1 18 (.mv (.t 0)),o1 19 (.len (.t 18)),o1 20 (.mv (.c (.n .i64 0)))]
abbrev x35r5 : List AO :=
 [o1 21 (.bin .lss (.t 20) (.t 19))]
abbrev x35r6 : List AO :=
 [o1 22 (.mv (.t 20)),o1 23 (.ia 5 (.t 18) (.t 20)),o1 24 (.ld 5 true (.t 23)),o1 11 (.al 37 [.n .i64 0, .n .i64 0, .n .i64 0, .n .i64 0, .n .u32 0]),o1 10 (.mv (.t 22)),⟨none, none, .ap (.st 5 (.t 11) (.t 24))⟩]
abbrev x35r7 : List AO :=
 [o1 26 (.fa 1 (.t 5)),o1 27 (.ld 1 false (.t 26)),o1 28 (.ld 5 true (.t 11)),o1 29 (.mv (.t 1)),⟨some 30, none, .cl (.t 27) [(.t 28), (.t 29)]⟩,o1 25 (.mv (.t 30)),o1 31 (.ext 0 (.t 25)),o1 32 (.ext 1 (.t 25)),o1 33 (.ext 2 (.t 25)),o1 12 (.al 37 [.n .i64 0, .n .i64 0, .n .i64 0, .n .i64 0, .n .u32 0]),⟨none, none, .ap (.st 5 (.t 12) (.t 31))⟩,o1 13 (.mv (.t 32)),o1 14 (.mv (.t 33))]
abbrev x35r8 : List AO :=
 [o1 34 (.mv (.t 13)),o1 35 (.un .not (.t 34))]
abbrev x35r9 : List AO :=
 [o1 36 (.mv (.t 9)),o1 37 (.len (.t 36)),o1 38 (.bin .sub (.t 37) (.c (.n .i64 1))),o1 15 (.mv (.t 38))]
abbrev x35r10 : List AO :=
 [o1 40 (.fa 0 (.t 11)),o1 41 (.ld 1 false (.t 40)),o1 42 (.bin .eql (.t 41) (.c (.n .i64 27))),o1 39 (.mv (.t 42))]
abbrev x35r11 : List AO :=
 [o1 43 (.mv (.t 9)),o1 44 (.mv (.t 1)),o1 45 (.bs 104 1 1 [.sl0] [(0, 1, (.t 44))]),o1 46 (.app 104 1 24 (.t 43) (.t 45)),o1 9 (.mv (.t 46))]
abbrev x35r12 : List AO :=
 [o1 48 (.fa 0 (.t 11)),o1 49 (.ld 1 false (.t 48)),o1 50 (.bin .eql (.t 49) (.c (.n .i64 28))),o1 47 (.mv (.t 50))]
abbrev x35r13 : List AO :=
 [o1 51 (.mv (.t 9)),o1 52 (.mv (.t 15)),o1 53 (.mv (.t 1)),o1 54 (.mv (.t 9)),o1 55 (.mv (.t 15)),o1 56 (.ia 1 (.t 54) (.t 55)),o1 57 (.ld 1 false (.t 56)),o1 58 (.ia 1 (.t 51) (.t 52)),⟨none, none, .ap (.st 1 (.t 58) (.t 53))⟩,o1 1 (.mv (.t 57))]
abbrev x35r14 : List AO :=
 [o1 60 (.fa 0 (.t 11)),o1 61 (.ld 1 false (.t 60)),o1 62 (.bin .eql (.t 61) (.c (.n .i64 29))),o1 59 (.mv (.t 62))]
abbrev x35m15 : List (Nat × AO) :=
 [(2, (o1 63 (.mv (.t 1)))),(2, (o1 65 (.mv (.t 0)))),(2, (o1 66 (.mv (.t 10)))),(2, (o1 67 (.mv (.t 7)))),(2, (o1 68 (.mv (.t 10)))),(2, (o1 69 (.ia 1 (.t 67) (.t 68)))),(1, (o1 64 (.ld 2 true (.t 5)))),(1, (o1 70 (.ld 1 false (.t 69)))),(2, (o1 71 (.sl 5 (.t 65) (some (.t 66)) (some (.t 70))))),(3, ⟨some 72, none, .cl (.c (.f 97 [] [])) [(.t 63), (.t 64), (.t 71)]⟩),(2, (o1 1 (.mv (.t 72))))]
abbrev x35r16 : List AO :=
 [o1 74 (.fa 0 (.t 11)),o1 75 (.ld 1 false (.t 74)),o1 76 (.bin .eql (.t 75) (.c (.n .i64 31))),o1 77 (.mv (.t 76)),⟨some 78, some (77, true), .ap (.mv (.t 0))⟩,⟨some 79, some (77, true), .ap (.mv (.t 7))⟩,⟨some 80, some (77, true), .ap (.mv (.t 10))⟩,⟨some 81, some (77, true), .ap (.ia 1 (.t 79) (.t 80))⟩,⟨some 82, some (77, true), .ap (.ld 1 false (.t 81))⟩,⟨some 83, some (77, true), .ap (.ia 5 (.t 78) (.t 82))⟩,⟨some 84, some (77, true), .ap (.fa 0 (.t 83))⟩,⟨some 85, some (77, true), .ap (.ld 1 false (.t 84))⟩,⟨some 86, some (77, true), .ap (.bin .eql (.t 85) (.c (.n .i64 29)))⟩,o1 87 (.pick (.t 77) (.t 86) (.c (.b false))),o1 73 (.mv (.t 87))]
abbrev x35m17 : List (Nat × AO) :=
 [(2, (o1 88 (.mv (.t 1)))),(2, (o1 90 (.mv (.t 0)))),(2, (o1 91 (.mv (.t 7)))),(2, (o1 92 (.mv (.t 10)))),(2, (o1 93 (.ia 1 (.t 91) (.t 92)))),(2, (o1 95 (.mv (.t 10)))),(1, (o1 89 (.ld 2 true (.t 5)))),(1, (o1 94 (.ld 1 false (.t 93)))),(2, (o1 96 (.sl 5 (.t 90) (some (.t 94)) (some (.t 95))))),(3, ⟨some 97, none, .cl (.c (.f 97 [] [])) [(.t 88), (.t 89), (.t 96)]⟩),(2, (o1 1 (.mv (.t 97))))]
abbrev x35r18 : List AO :=
 [o1 99 (.fa 0 (.t 11)),o1 100 (.ld 1 false (.t 99)),o1 101 (.bin .eql (.t 100) (.c (.n .i64 31))),o1 98 (.mv (.t 101))]
abbrev x35m19 : List (Nat × AO) :=
 [(2, (o1 102 (.mv (.t 1)))),(2, (o1 103 (.mv (.t 9)))),(2, (o1 104 (.mv (.t 15)))),(2, (o1 105 (.ia 1 (.t 103) (.t 104)))),(2, (o1 108 (.mv (.t 9)))),(2, (o1 109 (.mv (.t 15)))),(2, (o1 110 (.sl 1 (.t 108) none (some (.t 109))))),(1, (o1 106 (.ld 1 false (.t 105)))),(3, ⟨some 107, none, .cl (.c (.f 98 [] [])) [(.t 102), (.t 106)]⟩),(2, (o1 1 (.mv (.t 107)))),(2, (o1 9 (.mv (.t 110))))]
abbrev x35k20 : AC :=
 (.seq (.reg x35r10) (.cond (.t 39) (.reg x35r11) (.seq (.reg x35r12) (.cond (.t 47) (.reg x35r13) (.seq (.reg x35r14) (.cond (.t 59) (.mix x35m15) (.seq (.reg x35r16) (.cond (.t 73) (.mix x35m17) (.seq (.reg x35r18) (.cond (.t 98) (.mix x35m19) .skip))))))))))
abbrev x35r21 : List AO :=
 [o1 111 (.mv (.t 1)),o1 112 (.ld 2 true (.t 5)),o1 113 (.ld 5 true (.t 12)),o1 114 (.bs 37 5 1 [.n .i64 0, .n .i64 0, .n .i64 0, .n .i64 0, .n .u32 0] [(0, 5, (.t 113))]),⟨some 115, none, .cl (.c (.f 97 [] [])) [(.t 111), (.t 112), (.t 114)]⟩,o1 116 (.mv (.t 14)),o1 117 (.app 102 2 16 (.t 115) (.t 116)),o1 1 (.mv (.t 117))]
abbrev x35r22 : List AO :=
 [o1 118 (.mv (.t 8)),o1 119 (.ld 5 true (.t 12)),o1 120 (.bs 37 5 1 [.n .i64 0, .n .i64 0, .n .i64 0, .n .i64 0, .n .u32 0] [(0, 5, (.t 119))]),o1 121 (.app 37 5 40 (.t 118) (.t 120)),o1 8 (.mv (.t 121))]
abbrev x35k23 : AC :=
 (.seq (.reg x35r6) (.seq (.reg x35r7) (.seq (.seq (.reg x35r8) (.cond (.t 35) (.exit 1) .skip)) (.seq (.reg x35r9) (.seq (.block 2 x35k20) (.seq (.reg x35r21) (.reg x35r22)))))))
abbrev x35r24 : List AO :=
 [o1 122 (.bin .add (.t 20) (.c (.n .i64 1))),o1 20 (.mv (.t 122))]
abbrev x35b25 : AC :=
 (.seq (.reg x35r5) (.seq (.cond (.t 21) .skip (.exit 0)) (.seq (.block 1 x35k23) (.reg x35r24))))
abbrev x35k26 : AC :=
 (.loop x35b25)
abbrev x35r27 : List AO :=
 [o1 123 (.mv (.t 8)),o1 6 (.mv (.t 123))]
abbrev x35F : AF := ⟨124, (.seq (.reg x35r0) (.seq (.reg x35r1) (.seq (.reg x35r2) (.seq (.reg x35r3) (.seq (.seq (.reg x35r4) (.block 0 x35k26)) (.seq (.reg x35r27) .ret)))))), [.mv (.t 6)]⟩
theorem x35ok : afOf Tryz.prog (hintsOf Tryz.prog 64) 64 = some x35F := by kernel_rfl
/-! optimizer.copies$1 -/
abbrev x36r0 : List AO :=
 [o1 2 (.bx 37 0 (.t 0)),o1 3 (.bx 102 0 (.t 1)),o1 4 (.mv (.c (.b false)))]
abbrev x36r1 : List AO :=
 [o1 6 (.ld 5 true (.t 2)),⟨some 7, none, .cl (.c (.f 57 [] [])) [(.t 6)]⟩,o1 5 (.mv (.t 7))]
abbrev x36r2 : List AO :=
 [o1 8 (.mv (.t 5)),o1 9 (.fa 0 (.t 3)),o1 10 (.ld 1 false (.t 9)),o1 11 (.bin .eql (.t 8) (.t 10)),o1 12 (.mv (.t 11)),⟨some 13, some (12, false), .ap (.mv (.t 5))⟩,⟨some 14, some (12, false), .ap (.fa 1 (.t 3))⟩,⟨some 15, some (12, false), .ap (.ld 1 false (.t 14))⟩,⟨some 16, some (12, false), .ap (.bin .eql (.t 13) (.t 15))⟩,o1 17 (.pick (.t 12) (.c (.b true)) (.t 16)),o1 4 (.mv (.t 17))]
abbrev x36F : AF := ⟨18, (.seq (.reg x36r0) (.seq (.reg x36r1) (.seq (.reg x36r2) .ret))), [.mv (.t 4)]⟩
theorem x36ok : afOf Tryz.prog (hintsOf Tryz.prog 65) 65 = some x36F := by kernel_rfl
/-! optimizer.copies$2 -/
abbrev x37r0 : List AO :=
 [o1 2 (.bx 37 0 (.t 0)),o1 4 (.al 37 [.n .i64 0, .n .i64 0, .n .i64 0, .n .i64 0, .n .u32 0]),o1 5 (.mv (.c (.b false))),o1 6 (.mv (.c .sl0))]
abbrev x37m1 : List (Nat × AO) :=
 [(2, (o1 7 (.mv (.t 1)))),(2, (o1 8 (.fa 2 (.t 2)))),(2, (o1 11 (.mv (.t 1)))),(2, (o1 12 (.fa 3 (.t 2)))),(1, (o1 9 (.ld 1 false (.t 8)))),(1, (o1 13 (.ld 1 false (.t 12)))),(0, ⟨some 10, none, .cl (.c (.f 67 [] [])) [(.t 7), (.t 9)]⟩),(2, (o1 15 (.fa 2 (.t 2)))),(3, ⟨some 14, none, .cl (.c (.f 67 [] [])) [(.t 11), (.t 13)]⟩),(3, ⟨none, none, .ap (.st 1 (.t 15) (.t 10))⟩),(2, (o1 16 (.fa 3 (.t 2)))),(3, ⟨none, none, .ap (.st 1 (.t 16) (.t 14))⟩)]
abbrev x37r2 : List AO :=
 [o1 18 (.fa 0 (.t 2)),o1 19 (.ld 1 false (.t 18)),o1 20 (.bin .neq (.t 19) (.c (.n .i64 36))),o1 17 (.mv (.t 20))]
abbrev x37r3 : List AO :=
 [o1 21 (.ld 5 true (.t 2)),⟨none, none, .ap (.st 5 (.t 4) (.t 21))⟩,o1 5 (.mv (.c (.b true))),o1 6 (.mv (.c .sl0))]
abbrev x37r4 : List AO :=
 [o1 23 (.fa 2 (.t 2)),o1 24 (.ld 1 false (.t 23)),o1 25 (.fa 1 (.t 2)),o1 26 (.ld 1 false (.t 25)),o1 27 (.bin .eql (.t 24) (.t 26)),o1 22 (.mv (.t 27))]
abbrev x37r5 : List AO :=
 [o1 28 (.ld 5 true (.t 2)),⟨none, none, .ap (.st 5 (.t 4) (.t 28))⟩,o1 5 (.mv (.c (.b false))),o1 6 (.mv (.c .sl0))]
abbrev x37k6 : AC :=
 (.seq (.reg x37r2) (.cond (.t 17) (.seq (.reg x37r3) .ret) (.seq (.reg x37r4) (.cond (.t 22) (.seq (.reg x37r5) .ret) .skip))))
abbrev x37m7 : List (Nat × AO) :=
 [(1, (o1 29 (.ld 5 true (.t 2)))),(2, (o1 30 (.fa 1 (.t 2)))),(1, (o1 31 (.ld 1 false (.t 30)))),(2, (o1 32 (.fa 2 (.t 2)))),(1, (o1 33 (.ld 1 false (.t 32)))),(2, (o1 34 (.bd [.n .i64 0, .n .i64 0] [(0, 1, (.t 31)), (1, 1, (.t 33))])))]
abbrev x37t8 : AT :=
 (.alt (o1 35 (.bs 102 2 1 [.n .i64 0, .n .i64 0] [(0, 2, (.t 34))])) (.alt ⟨none, none, .ap (.st 5 (.t 4) (.t 29))⟩ (.alt (o1 5 (.mv (.c (.b true)))) (.alt (o1 6 (.mv (.t 35))) .fin .none) .none) .none) (.alt ⟨none, none, .ap (.st 5 (.t 4) (.t 29))⟩ (.alt (o1 35 (.bs 102 2 1 [.n .i64 0, .n .i64 0] [(0, 2, (.t 34))])) (.alt (o1 5 (.mv (.c (.b true)))) (.alt (o1 6 (.mv (.t 35))) .fin .none) .none) (.alt (o1 5 (.mv (.c (.b true)))) (.alt (o1 35 (.bs 102 2 1 [.n .i64 0, .n .i64 0] [(0, 2, (.t 34))])) (.alt (o1 6 (.mv (.t 35))) .fin .none) .none) .none)) .none))
abbrev x37F : AF := ⟨36, (.seq (.reg x37r0) (.seq (.mix x37m1) (.seq (.block 0 x37k6) (.seq (.frk x37m7 x37t8) .ret)))), [.ld 5 true (.t 4), .mv (.t 5), .mv (.t 6)]⟩
theorem x37ok : afOf Tryz.prog (hintsOf Tryz.prog 66) 66 = some x37F := by kernel_rfl
/-! optimizer.without[optimizer.same] -/
abbrev x38r0 : List AO :=
 [o1 4 (.bx 108 0 (.t 1)),o1 6 (.mv (.c .sl0))]
abbrev x38r1 : List AO :=
 [o1 7 (.mv (.c .sl0))]
abbrev x38r2 : List AO :=
 [o1 10 (.mv (.t 0)),o1 11 (.len (.t 10)),o1 12 (.mv (.c (.n .i64 0)))]
abbrev x38r3 : List AO :=
 [o1 13 (.bin .lss (.t 12) (.t 11))]
abbrev x38r4 : List AO :=
 [o1 14 (.ia 2 (.t 10) (.t 12)),o1 15 (.ld 2 true (.t 14)),o1 9 (.al 102 [.n .i64 0, .n .i64 0]),⟨none, none, .ap (.st 2 (.t 9) (.t 15))⟩]
abbrev x38r5 : List AO :=
 [o1 16 (.mv (.t 2)),o1 17 (.mf 114 [] [(.t 4), (.t 9)]),⟨some 18, none, .cl (.c (.f 107 [] [])) [(.t 16), (.t 17)]⟩,o1 19 (.un .not (.t 18))]
abbrev x38r6 : List AO :=
 [o1 20 (.mv (.t 7)),o1 21 (.ld 2 true (.t 9)),o1 22 (.bs 102 2 1 [.n .i64 0, .n .i64 0] [(0, 2, (.t 21))]),o1 23 (.app 102 2 16 (.t 20) (.t 22)),o1 7 (.mv (.t 23))]
abbrev x38k7 : AC :=
 (.seq (.reg x38r4) (.seq (.reg x38r5) (.cond (.t 19) (.reg x38r6) .skip)))
abbrev x38r8 : List AO :=
 [o1 24 (.bin .add (.t 12) (.c (.n .i64 1))),o1 12 (.mv (.t 24))]
abbrev x38b9 : AC :=
 (.seq (.reg x38r3) (.seq (.cond (.t 13) .skip (.exit 0)) (.seq (.block 1 x38k7) (.reg x38r8))))
abbrev x38k10 : AC :=
 (.loop x38b9)
abbrev x38r11 : List AO :=
 [o1 25 (.mv (.t 7)),o1 6 (.mv (.t 25))]
abbrev x38F : AF := ⟨26, (.seq (.reg x38r0) (.seq (.reg x38r1) (.seq (.seq (.reg x38r2) (.block 0 x38k10)) (.seq (.reg x38r11) .ret)))), [.mv (.t 6)]⟩
theorem x38ok : afOf Tryz.prog (hintsOf Tryz.prog 97) 97 = some x38F := by kernel_rfl
/-! optimizer.both[optimizer.same] -/
abbrev x39r0 : List AO :=
 [o1 4 (.mv (.c .sl0))]
abbrev x39r1 : List AO :=
 [o1 5 (.mv (.c .sl0))]
abbrev x39r2 : List AO :=
 [o1 8 (.mv (.t 0)),o1 9 (.len (.t 8)),o1 10 (.mv (.c (.n .i64 0)))]
abbrev x39r3 : List AO :=
 [o1 11 (.bin .lss (.t 10) (.t 9))]
abbrev x39r4 : List AO :=
 [o1 12 (.ia 2 (.t 8) (.t 10)),o1 13 (.ld 2 true (.t 12)),o1 7 (.al 102 [.n .i64 0, .n .i64 0]),⟨none, none, .ap (.st 2 (.t 7) (.t 13))⟩]
abbrev x39r5 : List AO :=
 [o1 14 (.mv (.t 1)),o1 15 (.ld 2 true (.t 7)),⟨some 16, none, .cl (.c (.f 115 [] [])) [(.t 14), (.t 15)]⟩]
abbrev x39r6 : List AO :=
 [o1 17 (.mv (.t 5)),o1 18 (.ld 2 true (.t 7)),o1 19 (.bs 102 2 1 [.n .i64 0, .n .i64 0] [(0, 2, (.t 18))]),o1 20 (.app 102 2 16 (.t 17) (.t 19)),o1 5 (.mv (.t 20))]
abbrev x39k7 : AC :=
 (.seq (.reg x39r4) (.seq (.reg x39r5) (.cond (.t 16) (.reg x39r6) .skip)))
abbrev x39r8 : List AO :=
 [o1 21 (.bin .add (.t 10) (.c (.n .i64 1))),o1 10 (.mv (.t 21))]
abbrev x39b9 : AC :=
 (.seq (.reg x39r3) (.seq (.cond (.t 11) .skip (.exit 0)) (.seq (.block 1 x39k7) (.reg x39r8))))
abbrev x39k10 : AC :=
 (.loop x39b9)
abbrev x39r11 : List AO :=
 [o1 22 (.mv (.t 5)),o1 4 (.mv (.t 22))]
abbrev x39F : AF := ⟨23, (.seq (.reg x39r0) (.seq (.reg x39r1) (.seq (.seq (.reg x39r2) (.block 0 x39k10)) (.seq (.reg x39r11) .ret)))), [.mv (.t 4)]⟩
theorem x39ok : afOf Tryz.prog (hintsOf Tryz.prog 98) 98 = some x39F := by kernel_rfl
/-! optimizer.without[optimizer.same]$1 -/
abbrev x40r0 : List AO :=
 [o1 3 (.bx 37 0 (.t 0)),o1 4 (.mv (.c (.b false)))]
abbrev x40r1 : List AO :=
 [o1 5 (.fa 0 (.t 1)),o1 6 (.ld 1 false (.t 5)),o1 7 (.ld 5 true (.t 3)),o1 8 (.ld 2 true (.t 2)),⟨some 9, none, .cl (.t 6) [(.t 7), (.t 8)]⟩,o1 4 (.mv (.t 9))]
abbrev x40F : AF := ⟨10, (.seq (.reg x40r0) (.seq (.reg x40r1) .ret)), [.mv (.t 4)]⟩
theorem x40ok : afOf Tryz.prog (hintsOf Tryz.prog 114) 114 = some x40F := by kernel_rfl
/-! slices.Contains[[]optimizer.same,optimizer.same] -/
abbrev x41r0 : List AO :=
 [o1 3 (.bx 102 0 (.t 1)),o1 4 (.mv (.c (.b false)))]
abbrev x41r1 : List AO :=
 [o1 5 (.mv (.t 0)),o1 6 (.ld 2 true (.t 3)),⟨some 7, none, .cl (.c (.f 140 [] [])) [(.t 5), (.t 6)]⟩,o1 8 (.bin .geq (.t 7) (.c (.n .i64 0))),o1 4 (.mv (.t 8))]
abbrev x41F : AF := ⟨9, (.seq (.reg x41r0) (.seq (.reg x41r1) .ret)), [.mv (.t 4)]⟩
theorem x41ok : afOf Tryz.prog (hintsOf Tryz.prog 115) 115 = some x41F := by kernel_rfl
/-! slices.Index[[]optimizer.same,optimizer.same] -/
abbrev x42r0 : List AO :=
 [o1 3 (.bx 102 0 (.t 1)),o1 4 (.mv (.c (.n .i64 0)))]
abbrev x42r1 : List AO :=
 [o1 6 (.mv (.t 0)),o1 7 (.len (.t 6)),o1 8 (.mv (.c (.n .i64 0)))]
abbrev x42r2 : List AO :=
 [o1 9 (.bin .lss (.t 8) (.t 7))]
abbrev x42r3 : List AO :=
 [o1 10 (.mv (.t 8)),o1 5 (.mv (.t 10))]
abbrev x42m4 : List (Nat × AO) :=
 [(2, (o1 12 (.mv (.t 0)))),(2, (o1 13 (.mv (.t 5)))),(2, (o1 14 (.ia 2 (.t 12) (.t 13)))),(1, (o1 11 (.ld 2 true (.t 3)))),(1, (o1 15 (.ld 2 true (.t 14)))),(2, (o1 16 (.eq false (.st [(0, 1, .n), (1, 1, .n)]) (.t 11) (.t 15))))]
abbrev x42r5 : List AO :=
 [o1 17 (.mv (.t 5)),o1 4 (.mv (.t 17))]
abbrev x42k6 : AC :=
 (.seq (.reg x42r3) (.seq (.mix x42m4) (.cond (.t 16) (.seq (.reg x42r5) .ret) .skip)))
abbrev x42r7 : List AO :=
 [o1 18 (.bin .add (.t 8) (.c (.n .i64 1))),o1 8 (.mv (.t 18))]
abbrev x42b8 : AC :=
 (.seq (.reg x42r2) (.seq (.cond (.t 9) .skip (.exit 0)) (.seq (.block 1 x42k6) (.reg x42r7))))
abbrev x42k9 : AC :=
 (.loop x42b8)
abbrev x42r10 : List AO :=
 [o1 4 (.mv (.c (.n .i64 (-1))))]
abbrev x42F : AF := ⟨19, (.seq (.reg x42r0) (.seq (.seq (.reg x42r1) (.block 0 x42k9)) (.seq (.reg x42r10) .ret))), [.mv (.t 4)]⟩
theorem x42ok : afOf Tryz.prog (hintsOf Tryz.prog 140) 140 = some x42F := by kernel_rfl
/-! compactorref24.Copies -/
/-! compactorref24.source -/
/-! compactorref24.withoutSources -/
/-! compactorref24.bothSources -/
/-! compactorref24.only -/
/-! compactorref23.Copy -/
abbrev x43r0 : List AO :=
 [o1 1 (.bx 25 0 (.t 0)),o1 2 (.al 25 [.sl0, .n .i64 0, .n .i64 0, .sl0])]
abbrev x43r1 : List AO :=
 [o1 3 (.bs 93 2 0 [] []),o1 4 (.fa 0 (.t 1)),o1 5 (.ld 1 false (.t 4)),o1 6 (.app 93 2 16 (.t 3) (.t 5)),o1 7 (.fa 0 (.t 1)),⟨none, none, .ap (.st 1 (.t 7) (.t 6))⟩]
abbrev x43r2 : List AO :=
 [o1 8 (.bs 37 5 0 [] []),o1 9 (.fa 3 (.t 1)),o1 10 (.ld 1 false (.t 9)),o1 11 (.app 37 5 40 (.t 8) (.t 10)),o1 12 (.fa 3 (.t 1)),⟨none, none, .ap (.st 1 (.t 12) (.t 11))⟩]
abbrev x43r3 : List AO :=
 [o1 13 (.ld 4 true (.t 1)),⟨none, none, .ap (.st 4 (.t 2) (.t 13))⟩]
abbrev x43F : AF := ⟨14, (.seq (.reg x43r0) (.seq (.reg x43r1) (.seq (.reg x43r2) (.seq (.reg x43r3) .ret)))), [.ld 4 true (.t 2)]⟩
theorem x43ok : afOf Tryz.prog (hintsOf Tryz.prog 28) 28 = some x43F := by kernel_rfl
/-! compactorlaw24.OptimizerCopies -/
end Go.Proofs.YtidhfimbnjaceaaGreat

namespace Go.Proofs.YtidhfimbnjaceaaGreat
open Go.RowKit
set_option linter.unusedVariables false
/-! optimizer.Share -/
abbrev x57r0 : List AO :=
 [o1 1 (.bx 25 0 (.t 0)),o1 2 (.al 25 [.sl0, .n .i64 0, .n .i64 0, .sl0]),o1 3 (.mv (.c (.n .i64 0)))]
abbrev x57r1 : List AO :=
 [o1 4 (.ld 4 true (.t 1)),⟨some 5, none, .cl (.c (.f 24 [] [])) [(.t 4), (.c (.f 41 [] []))]⟩,o1 6 (.ext 0 (.t 5)),o1 7 (.ext 1 (.t 5)),⟨none, none, .ap (.st 4 (.t 2) (.t 6))⟩,o1 3 (.mv (.t 7))]
abbrev x57F : AF := ⟨8, (.seq (.reg x57r0) (.seq (.reg x57r1) .ret)), [.ld 4 true (.t 2), .mv (.t 3)]⟩
theorem x57ok : afOf Tryz.prog (hintsOf Tryz.prog 15) 15 = some x57F := by kernel_rfl
/-! optimizer.share -/
abbrev x58r0 : List AO :=
 [o1 1 (.bx 25 0 (.t 0)),o1 2 (.mv (.c .sl0))]
abbrev x58r1 : List AO :=
 [o1 3 (.fa 3 (.t 1)),o1 4 (.ld 1 false (.t 3)),o1 5 (.bd [.f0, .f0] [(0, 1, (.c (.f 69 [] []))), (1, 1, (.c (.f 70 [] [])))]),⟨some 6, none, .cl (.c (.f 68 [] [])) [(.t 4), (.c .sl0), (.t 5)]⟩,o1 2 (.mv (.t 6))]
abbrev x58F : AF := ⟨7, (.seq (.reg x58r0) (.seq (.reg x58r1) .ret)), [.mv (.t 2)]⟩
theorem x58ok : afOf Tryz.prog (hintsOf Tryz.prog 41) 41 = some x58F := by kernel_rfl
/-! optimizer.walk[optimizer.value] -/
abbrev x59r0 : List AO :=
 [o1 5 (.bx 119 0 (.t 2)),o1 6 (.mv (.c .sl0))]
abbrev x59r1 : List AO :=
 [o1 16 (.mv (.t 0)),⟨some 17, none, .cl (.c (.f 86 [] [])) [(.t 16)]⟩,o1 7 (.mv (.t 17))]
abbrev x59r2 : List AO :=
 [o1 8 (.mv (.c .sl0))]
abbrev x59r3 : List AO :=
 [o1 9 (.mv (.c .sl0))]
abbrev x59r4 : List AO :=
 [o1 18 (.mv (.t 0)),o1 19 (.len (.t 18)),o1 20 (.mv (.c (.n .i64 0)))]
abbrev x59r5 : List AO :=
 [o1 21 (.bin .lss (.t 20) (.t 19))]
abbrev x59r6 : List AO :=
 [o1 22 (.mv (.t 20)),o1 23 (.ia 5 (.t 18) (.t 20)),o1 24 (.ld 5 true (.t 23)),o1 11 (.al 37 [.n .i64 0, .n .i64 0, .n .i64 0, .n .i64 0, .n .u32 0]),o1 10 (.mv (.t 22)),⟨none, none, .ap (.st 5 (.t 11) (.t 24))⟩]
abbrev x59r7 : List AO :=
 [o1 26 (.fa 1 (.t 5)),o1 27 (.ld 1 false (.t 26)),o1 28 (.ld 5 true (.t 11)),o1 29 (.mv (.t 1)),⟨some 30, none, .cl (.t 27) [(.t 28), (.t 29)]⟩,o1 25 (.mv (.t 30)),o1 31 (.ext 0 (.t 25)),o1 32 (.ext 1 (.t 25)),o1 33 (.ext 2 (.t 25)),o1 12 (.al 37 [.n .i64 0, .n .i64 0, .n .i64 0, .n .i64 0, .n .u32 0]),⟨none, none, .ap (.st 5 (.t 12) (.t 31))⟩,o1 13 (.mv (.t 32)),o1 14 (.mv (.t 33))]
abbrev x59r8 : List AO :=
 [o1 34 (.mv (.t 13)),o1 35 (.un .not (.t 34))]
abbrev x59r9 : List AO :=
 [o1 36 (.mv (.t 9)),o1 37 (.len (.t 36)),o1 38 (.bin .sub (.t 37) (.c (.n .i64 1))),o1 15 (.mv (.t 38))]
abbrev x59r10 : List AO :=
 [o1 40 (.fa 0 (.t 11)),o1 41 (.ld 1 false (.t 40)),o1 42 (.bin .eql (.t 41) (.c (.n .i64 27))),o1 39 (.mv (.t 42))]
abbrev x59r11 : List AO :=
 [o1 43 (.mv (.t 9)),o1 44 (.mv (.t 1)),o1 45 (.bs 113 1 1 [.sl0] [(0, 1, (.t 44))]),o1 46 (.app 113 1 24 (.t 43) (.t 45)),o1 9 (.mv (.t 46))]
abbrev x59r12 : List AO :=
 [o1 48 (.fa 0 (.t 11)),o1 49 (.ld 1 false (.t 48)),o1 50 (.bin .eql (.t 49) (.c (.n .i64 28))),o1 47 (.mv (.t 50))]
abbrev x59r13 : List AO :=
 [o1 51 (.mv (.t 9)),o1 52 (.mv (.t 15)),o1 53 (.mv (.t 1)),o1 54 (.mv (.t 9)),o1 55 (.mv (.t 15)),o1 56 (.ia 1 (.t 54) (.t 55)),o1 57 (.ld 1 false (.t 56)),o1 58 (.ia 1 (.t 51) (.t 52)),⟨none, none, .ap (.st 1 (.t 58) (.t 53))⟩,o1 1 (.mv (.t 57))]
abbrev x59r14 : List AO :=
 [o1 60 (.fa 0 (.t 11)),o1 61 (.ld 1 false (.t 60)),o1 62 (.bin .eql (.t 61) (.c (.n .i64 29))),o1 59 (.mv (.t 62))]
abbrev x59m15 : List (Nat × AO) :=
 [(2, (o1 63 (.mv (.t 1)))),(2, (o1 65 (.mv (.t 0)))),(2, (o1 66 (.mv (.t 10)))),(2, (o1 67 (.mv (.t 7)))),(2, (o1 68 (.mv (.t 10)))),(2, (o1 69 (.ia 1 (.t 67) (.t 68)))),(1, (o1 64 (.ld 2 true (.t 5)))),(1, (o1 70 (.ld 1 false (.t 69)))),(2, (o1 71 (.sl 5 (.t 65) (some (.t 66)) (some (.t 70))))),(3, ⟨some 72, none, .cl (.c (.f 99 [] [])) [(.t 63), (.t 64), (.t 71)]⟩),(2, (o1 1 (.mv (.t 72))))]
abbrev x59r16 : List AO :=
 [o1 74 (.fa 0 (.t 11)),o1 75 (.ld 1 false (.t 74)),o1 76 (.bin .eql (.t 75) (.c (.n .i64 31))),o1 77 (.mv (.t 76)),⟨some 78, some (77, true), .ap (.mv (.t 0))⟩,⟨some 79, some (77, true), .ap (.mv (.t 7))⟩,⟨some 80, some (77, true), .ap (.mv (.t 10))⟩,⟨some 81, some (77, true), .ap (.ia 1 (.t 79) (.t 80))⟩,⟨some 82, some (77, true), .ap (.ld 1 false (.t 81))⟩,⟨some 83, some (77, true), .ap (.ia 5 (.t 78) (.t 82))⟩,⟨some 84, some (77, true), .ap (.fa 0 (.t 83))⟩,⟨some 85, some (77, true), .ap (.ld 1 false (.t 84))⟩,⟨some 86, some (77, true), .ap (.bin .eql (.t 85) (.c (.n .i64 29)))⟩,o1 87 (.pick (.t 77) (.t 86) (.c (.b false))),o1 73 (.mv (.t 87))]
abbrev x59m17 : List (Nat × AO) :=
 [(2, (o1 88 (.mv (.t 1)))),(2, (o1 90 (.mv (.t 0)))),(2, (o1 91 (.mv (.t 7)))),(2, (o1 92 (.mv (.t 10)))),(2, (o1 93 (.ia 1 (.t 91) (.t 92)))),(2, (o1 95 (.mv (.t 10)))),(1, (o1 89 (.ld 2 true (.t 5)))),(1, (o1 94 (.ld 1 false (.t 93)))),(2, (o1 96 (.sl 5 (.t 90) (some (.t 94)) (some (.t 95))))),(3, ⟨some 97, none, .cl (.c (.f 99 [] [])) [(.t 88), (.t 89), (.t 96)]⟩),(2, (o1 1 (.mv (.t 97))))]
abbrev x59r18 : List AO :=
 [o1 99 (.fa 0 (.t 11)),o1 100 (.ld 1 false (.t 99)),o1 101 (.bin .eql (.t 100) (.c (.n .i64 31))),o1 98 (.mv (.t 101))]
abbrev x59m19 : List (Nat × AO) :=
 [(2, (o1 102 (.mv (.t 1)))),(2, (o1 103 (.mv (.t 9)))),(2, (o1 104 (.mv (.t 15)))),(2, (o1 105 (.ia 1 (.t 103) (.t 104)))),(2, (o1 108 (.mv (.t 9)))),(2, (o1 109 (.mv (.t 15)))),(2, (o1 110 (.sl 1 (.t 108) none (some (.t 109))))),(1, (o1 106 (.ld 1 false (.t 105)))),(3, ⟨some 107, none, .cl (.c (.f 100 [] [])) [(.t 102), (.t 106)]⟩),(2, (o1 1 (.mv (.t 107)))),(2, (o1 9 (.mv (.t 110))))]
abbrev x59k20 : AC :=
 (.seq (.reg x59r10) (.cond (.t 39) (.reg x59r11) (.seq (.reg x59r12) (.cond (.t 47) (.reg x59r13) (.seq (.reg x59r14) (.cond (.t 59) (.mix x59m15) (.seq (.reg x59r16) (.cond (.t 73) (.mix x59m17) (.seq (.reg x59r18) (.cond (.t 98) (.mix x59m19) .skip))))))))))
abbrev x59r21 : List AO :=
 [o1 111 (.mv (.t 1)),o1 112 (.ld 2 true (.t 5)),o1 113 (.ld 5 true (.t 12)),o1 114 (.bs 37 5 1 [.n .i64 0, .n .i64 0, .n .i64 0, .n .i64 0, .n .u32 0] [(0, 5, (.t 113))]),⟨some 115, none, .cl (.c (.f 99 [] [])) [(.t 111), (.t 112), (.t 114)]⟩,o1 116 (.mv (.t 14)),o1 117 (.app 111 5 40 (.t 115) (.t 116)),o1 1 (.mv (.t 117))]
abbrev x59r22 : List AO :=
 [o1 118 (.mv (.t 8)),o1 119 (.ld 5 true (.t 12)),o1 120 (.bs 37 5 1 [.n .i64 0, .n .i64 0, .n .i64 0, .n .i64 0, .n .u32 0] [(0, 5, (.t 119))]),o1 121 (.app 37 5 40 (.t 118) (.t 120)),o1 8 (.mv (.t 121))]
abbrev x59k23 : AC :=
 (.seq (.reg x59r6) (.seq (.reg x59r7) (.seq (.seq (.reg x59r8) (.cond (.t 35) (.exit 1) .skip)) (.seq (.reg x59r9) (.seq (.block 2 x59k20) (.seq (.reg x59r21) (.reg x59r22)))))))
abbrev x59r24 : List AO :=
 [o1 122 (.bin .add (.t 20) (.c (.n .i64 1))),o1 20 (.mv (.t 122))]
abbrev x59b25 : AC :=
 (.seq (.reg x59r5) (.seq (.cond (.t 21) .skip (.exit 0)) (.seq (.block 1 x59k23) (.reg x59r24))))
abbrev x59k26 : AC :=
 (.loop x59b25)
abbrev x59r27 : List AO :=
 [o1 123 (.mv (.t 8)),o1 6 (.mv (.t 123))]
abbrev x59F : AF := ⟨124, (.seq (.reg x59r0) (.seq (.reg x59r1) (.seq (.reg x59r2) (.seq (.reg x59r3) (.seq (.seq (.reg x59r4) (.block 0 x59k26)) (.seq (.reg x59r27) .ret)))))), [.mv (.t 6)]⟩
theorem x59ok : afOf Tryz.prog (hintsOf Tryz.prog 68) 68 = some x59F := by kernel_rfl
/-! optimizer.share$1 -/
abbrev x60r0 : List AO :=
 [o1 2 (.bx 37 0 (.t 0)),o1 3 (.bx 111 0 (.t 1)),o1 4 (.mv (.c (.b false)))]
abbrev x60r1 : List AO :=
 [o1 6 (.ld 5 true (.t 2)),⟨some 7, none, .cl (.c (.f 57 [] [])) [(.t 6)]⟩,o1 5 (.mv (.t 7))]
abbrev x60r2 : List AO :=
 [o1 8 (.mv (.t 5)),o1 9 (.bin .geq (.t 8) (.c (.n .i64 0))),o1 10 (.mv (.t 9)),⟨some 11, some (10, true), .ap (.mv (.t 5))⟩,⟨some 12, some (10, true), .ap (.fa 0 (.t 3))⟩,⟨some 13, some (10, true), .ap (.fa 1 (.t 12))⟩,⟨some 14, some (10, true), .ap (.ld 1 false (.t 13))⟩,⟨some 15, some (10, true), .ap (.bin .eql (.t 11) (.t 14))⟩,⟨some 16, some (10, true), .ap (.mv (.t 15))⟩,⟨some 17, some (16, false), .ap (.mv (.t 5))⟩,⟨some 18, some (16, false), .ap (.fa 0 (.t 3))⟩,⟨some 19, some (16, false), .ap (.fa 2 (.t 18))⟩,⟨some 20, some (16, false), .ap (.ld 1 false (.t 19))⟩,⟨some 21, some (16, false), .ap (.bin .eql (.t 17) (.t 20))⟩,⟨some 22, some (10, true), .ap (.pick (.t 16) (.c (.b true)) (.t 21))⟩,⟨some 23, some (10, true), .ap (.mv (.t 22))⟩,⟨some 24, some (23, false), .ap (.mv (.t 5))⟩,⟨some 25, some (23, false), .ap (.fa 0 (.t 3))⟩,⟨some 26, some (23, false), .ap (.fa 3 (.t 25))⟩,⟨some 27, some (23, false), .ap (.ld 1 false (.t 26))⟩,⟨some 28, some (23, false), .ap (.bin .eql (.t 24) (.t 27))⟩,⟨some 29, some (10, true), .ap (.pick (.t 23) (.c (.b true)) (.t 28))⟩,o1 30 (.pick (.t 10) (.t 29) (.c (.b false)))]
abbrev x60r3 : List AO :=
 [o1 4 (.mv (.c (.b true)))]
abbrev x60r4 : List AO :=
 [o1 31 (.fa 0 (.t 2)),o1 32 (.ld 1 false (.t 31)),o1 33 (.bin .eql (.t 32) (.c (.n .i64 4))),o1 34 (.mv (.t 33)),⟨some 35, some (34, true), .ap (.fa 0 (.t 3))⟩,⟨some 36, some (34, true), .ap (.fa 0 (.t 35))⟩,⟨some 37, some (34, true), .ap (.ld 1 false (.t 36))⟩,⟨some 38, some (34, true), .ap (.bin .eql (.t 37) (.c (.n .i64 3)))⟩,o1 39 (.pick (.t 34) (.t 38) (.c (.b false))),o1 40 (.mv (.t 39)),⟨some 41, some (40, true), .ap (.fa 4 (.t 2))⟩,⟨some 42, some (40, true), .ap (.ld 1 false (.t 41))⟩,⟨some 43, some (40, true), .ap (.fa 0 (.t 3))⟩,⟨some 44, some (40, true), .ap (.fa 4 (.t 43))⟩,⟨some 45, some (40, true), .ap (.ld 1 false (.t 44))⟩,⟨some 46, some (40, true), .ap (.bin .eql (.t 42) (.t 45))⟩,o1 47 (.pick (.t 40) (.t 46) (.c (.b false))),o1 4 (.mv (.t 47))]
abbrev x60F : AF := ⟨48, (.seq (.reg x60r0) (.seq (.seq (.reg x60r1) (.seq (.reg x60r2) (.cond (.t 30) (.seq (.reg x60r3) .ret) .skip))) (.seq (.reg x60r4) .ret))), [.mv (.t 4)]⟩
theorem x60ok : afOf Tryz.prog (hintsOf Tryz.prog 69) 69 = some x60F := by kernel_rfl
/-! optimizer.share$2 -/
abbrev x61r0 : List AO :=
 [o1 2 (.bx 37 0 (.t 0)),o1 4 (.al 37 [.n .i64 0, .n .i64 0, .n .i64 0, .n .i64 0, .n .u32 0]),o1 5 (.mv (.c (.b false))),o1 6 (.mv (.c .sl0))]
abbrev x61r1 : List AO :=
 [o1 8 (.fa 0 (.t 2)),o1 9 (.ld 1 false (.t 8)),⟨some 10, none, .cl (.c (.f 71 [] [])) [(.t 9)]⟩,o1 11 (.un .not (.t 10))]
abbrev x61r2 : List AO :=
 [o1 12 (.ld 5 true (.t 2)),⟨none, none, .ap (.st 5 (.t 4) (.t 12))⟩,o1 5 (.mv (.c (.b true))),o1 6 (.mv (.c .sl0))]
abbrev x61r3 : List AO :=
 [o1 13 (.mv (.t 1)),o1 14 (.mf 73 [] [(.t 2)]),⟨some 15, none, .cl (.c (.f 72 [] [])) [(.t 13), (.t 14)]⟩,o1 7 (.mv (.t 15))]
abbrev x61m4 : List (Nat × AO) :=
 [(2, (o1 17 (.mv (.t 7)))),(2, (o1 18 (.bin .geq (.t 17) (.c (.n .i64 0))))),(2, (o1 19 (.mv (.t 18)))),(2, ⟨some 20, some (19, true), .ap (.mv (.t 1))⟩),(2, ⟨some 21, some (19, true), .ap (.mv (.t 7))⟩),(2, ⟨some 22, some (19, true), .ap (.ia 5 (.t 20) (.t 21))⟩),(2, ⟨some 23, some (19, true), .ap (.fa 0 (.t 22))⟩),(2, ⟨some 24, some (19, true), .ap (.fa 1 (.t 23))⟩),(2, ⟨some 26, some (19, true), .ap (.fa 1 (.t 2))⟩),(1, ⟨some 25, some (19, true), .ap (.ld 1 false (.t 24))⟩),(1, ⟨some 27, some (19, true), .ap (.ld 1 false (.t 26))⟩),(2, ⟨some 28, some (19, true), .ap (.bin .eql (.t 25) (.t 27))⟩),(2, (o1 29 (.pick (.t 19) (.t 28) (.c (.b false))))),(2, (o1 16 (.mv (.t 29))))]
abbrev x61r5 : List AO :=
 [o1 30 (.ld 5 true (.t 2)),⟨none, none, .ap (.st 5 (.t 4) (.t 30))⟩,o1 5 (.mv (.c (.b false))),o1 6 (.mv (.c .sl0))]
abbrev x61r6 : List AO :=
 [o1 32 (.mv (.t 7)),o1 33 (.bin .geq (.t 32) (.c (.n .i64 0))),o1 31 (.mv (.t 33))]
abbrev x61m7 : List (Nat × AO) :=
 [(2, (o1 34 (.fa 1 (.t 2)))),(2, (o1 36 (.mv (.t 1)))),(2, (o1 37 (.mv (.t 7)))),(2, (o1 38 (.ia 5 (.t 36) (.t 37)))),(2, (o1 39 (.fa 0 (.t 38)))),(2, (o1 40 (.fa 1 (.t 39)))),(1, (o1 35 (.ld 1 false (.t 34)))),(1, (o1 41 (.ld 1 false (.t 40)))),(2, (o1 42 (.bd [.n .i64 0, .n .i64 0, .n .i64 0, .n .i64 0, .n .u32 0] [(0, 1, (.c (.n .i64 36))), (1, 1, (.t 35)), (2, 1, (.t 41)), (3, 1, (.c (.n .i64 (-1))))]))),(3, ⟨none, none, .ap (.st 5 (.t 4) (.t 42))⟩),(2, (o1 5 (.mv (.c (.b true))))),(2, (o1 6 (.mv (.c .sl0))))]
abbrev x61r8 : List AO :=
 [o1 44 (.fa 1 (.t 2)),o1 45 (.ld 1 false (.t 44)),o1 46 (.fa 2 (.t 2)),o1 47 (.ld 1 false (.t 46)),o1 48 (.bin .eql (.t 45) (.t 47)),o1 49 (.mv (.t 48)),⟨some 50, some (49, false), .ap (.fa 1 (.t 2))⟩,⟨some 51, some (49, false), .ap (.ld 1 false (.t 50))⟩,⟨some 52, some (49, false), .ap (.fa 3 (.t 2))⟩,⟨some 53, some (49, false), .ap (.ld 1 false (.t 52))⟩,⟨some 54, some (49, false), .ap (.bin .eql (.t 51) (.t 53))⟩,o1 55 (.pick (.t 49) (.c (.b true)) (.t 54)),o1 43 (.mv (.t 55))]
abbrev x61r9 : List AO :=
 [o1 56 (.ld 5 true (.t 2)),⟨none, none, .ap (.st 5 (.t 4) (.t 56))⟩,o1 5 (.mv (.c (.b true))),o1 6 (.mv (.c .sl0))]
abbrev x61k10 : AC :=
 (.seq (.mix x61m4) (.cond (.t 16) (.seq (.reg x61r5) .ret) (.seq (.reg x61r6) (.cond (.t 31) (.seq (.mix x61m7) .ret) (.seq (.reg x61r8) (.cond (.t 43) (.seq (.reg x61r9) .ret) .skip))))))
abbrev x61m11 : List (Nat × AO) :=
 [(1, (o1 57 (.ld 5 true (.t 2)))),(1, (o1 58 (.ld 5 true (.t 2)))),(2, (o1 59 (.bd [.n .i64 0, .n .i64 0, .n .i64 0, .n .i64 0, .n .u32 0] [(0, 5, (.t 58))])))]
abbrev x61t12 : AT :=
 (.alt (o1 60 (.bs 111 5 1 [.n .i64 0, .n .i64 0, .n .i64 0, .n .i64 0, .n .u32 0] [(0, 5, (.t 59))])) (.alt ⟨none, none, .ap (.st 5 (.t 4) (.t 57))⟩ (.alt (o1 5 (.mv (.c (.b true)))) (.alt (o1 6 (.mv (.t 60))) .fin .none) .none) .none) (.alt ⟨none, none, .ap (.st 5 (.t 4) (.t 57))⟩ (.alt (o1 60 (.bs 111 5 1 [.n .i64 0, .n .i64 0, .n .i64 0, .n .i64 0, .n .u32 0] [(0, 5, (.t 59))])) (.alt (o1 5 (.mv (.c (.b true)))) (.alt (o1 6 (.mv (.t 60))) .fin .none) .none) (.alt (o1 5 (.mv (.c (.b true)))) (.alt (o1 60 (.bs 111 5 1 [.n .i64 0, .n .i64 0, .n .i64 0, .n .i64 0, .n .u32 0] [(0, 5, (.t 59))])) (.alt (o1 6 (.mv (.t 60))) .fin .none) .none) .none)) .none))
abbrev x61F : AF := ⟨61, (.seq (.reg x61r0) (.seq (.seq (.reg x61r1) (.cond (.t 11) (.seq (.reg x61r2) .ret) .skip)) (.seq (.reg x61r3) (.seq (.block 0 x61k10) (.seq (.frk x61m11 x61t12) .ret))))), [.ld 5 true (.t 4), .mv (.t 5), .mv (.t 6)]⟩
theorem x61ok : afOf Tryz.prog (hintsOf Tryz.prog 70) 70 = some x61F := by kernel_rfl
/-! optimizer.expression -/
abbrev x62r0 : List AO :=
 [o1 2 (.mv (.c (.b false)))]
abbrev x62r1 : List AO :=
 [o1 3 (.mv (.t 0)),⟨some 4, none, .cl (.c (.f 90 [] [])) [(.t 3)]⟩,o1 5 (.mv (.t 4)),⟨some 6, some (5, false), .ap (.mv (.t 0))⟩,⟨some 7, some (5, false), .ap (.bin .eql (.t 6) (.c (.n .i64 3)))⟩,o1 8 (.pick (.t 5) (.c (.b true)) (.t 7)),o1 9 (.mv (.t 8)),⟨some 10, some (9, false), .ap (.mv (.t 0))⟩,⟨some 11, some (9, false), .ap (.bin .eql (.t 10) (.c (.n .i64 32)))⟩,o1 12 (.pick (.t 9) (.c (.b true)) (.t 11)),o1 13 (.mv (.t 12)),⟨some 14, some (13, false), .ap (.mv (.t 0))⟩,⟨some 15, some (13, false), .ap (.bin .eql (.t 14) (.c (.n .i64 33)))⟩,o1 16 (.pick (.t 13) (.c (.b true)) (.t 15)),o1 2 (.mv (.t 16))]
abbrev x62F : AF := ⟨17, (.seq (.reg x62r0) (.seq (.reg x62r1) .ret)), [.mv (.t 2)]⟩
theorem x62ok : afOf Tryz.prog (hintsOf Tryz.prog 71) 71 = some x62F := by kernel_rfl
/-! slices.IndexFunc[[]optimizer.value,optimizer.value] -/
abbrev x63r0 : List AO :=
 [o1 4 (.mv (.c (.n .i64 0)))]
abbrev x63r1 : List AO :=
 [o1 6 (.mv (.t 0)),o1 7 (.len (.t 6)),o1 8 (.mv (.c (.n .i64 0)))]
abbrev x63r2 : List AO :=
 [o1 9 (.bin .lss (.t 8) (.t 7))]
abbrev x63r3 : List AO :=
 [o1 10 (.mv (.t 8)),o1 5 (.mv (.t 10))]
abbrev x63r4 : List AO :=
 [o1 11 (.mv (.t 1)),o1 12 (.mv (.t 0)),o1 13 (.mv (.t 5)),o1 14 (.ia 5 (.t 12) (.t 13)),o1 15 (.ld 5 true (.t 14)),⟨some 16, none, .cl (.t 11) [(.t 15)]⟩]
abbrev x63r5 : List AO :=
 [o1 17 (.mv (.t 5)),o1 4 (.mv (.t 17))]
abbrev x63k6 : AC :=
 (.seq (.reg x63r3) (.seq (.reg x63r4) (.cond (.t 16) (.seq (.reg x63r5) .ret) .skip)))
abbrev x63r7 : List AO :=
 [o1 18 (.bin .add (.t 8) (.c (.n .i64 1))),o1 8 (.mv (.t 18))]
abbrev x63b8 : AC :=
 (.seq (.reg x63r2) (.seq (.cond (.t 9) .skip (.exit 0)) (.seq (.block 1 x63k6) (.reg x63r7))))
abbrev x63k9 : AC :=
 (.loop x63b8)
abbrev x63r10 : List AO :=
 [o1 4 (.mv (.c (.n .i64 (-1))))]
abbrev x63F : AF := ⟨19, (.seq (.reg x63r0) (.seq (.seq (.reg x63r1) (.block 0 x63k9)) (.seq (.reg x63r10) .ret))), [.mv (.t 4)]⟩
theorem x63ok : afOf Tryz.prog (hintsOf Tryz.prog 72) 72 = some x63F := by kernel_rfl
/-! optimizer.share$2$1 -/
abbrev x64r0 : List AO :=
 [o1 2 (.bx 111 0 (.t 0)),o1 3 (.mv (.c (.b false)))]
abbrev x64r1 : List AO :=
 [o1 4 (.ld 5 true (.t 2)),o1 5 (.ld 5 true (.t 1)),⟨some 6, none, .cl (.c (.f 74 [] [])) [(.t 4), (.t 5)]⟩,o1 3 (.mv (.t 6))]
abbrev x64F : AF := ⟨7, (.seq (.reg x64r0) (.seq (.reg x64r1) .ret)), [.mv (.t 3)]⟩
theorem x64ok : afOf Tryz.prog (hintsOf Tryz.prog 73) 73 = some x64F := by kernel_rfl
/-! optimizer.value.computes -/
abbrev x65r0 : List AO :=
 [o1 2 (.bx 111 0 (.t 0)),o1 3 (.bx 37 0 (.t 1)),o1 4 (.mv (.c (.b false)))]
abbrev x65r1 : List AO :=
 [o1 5 (.fa 0 (.t 2)),o1 6 (.fa 1 (.t 5)),o1 7 (.ld 1 false (.t 6)),o1 8 (.fa 1 (.t 3)),⟨none, none, .ap (.st 1 (.t 8) (.t 7))⟩]
abbrev x65r2 : List AO :=
 [o1 9 (.fa 0 (.t 2)),o1 10 (.ld 5 true (.t 9)),o1 11 (.ld 5 true (.t 3)),o1 12 (.eq false (.st [(0, 1, .n), (1, 1, .n), (2, 1, .n), (3, 1, .n), (4, 1, .n)]) (.t 10) (.t 11)),o1 4 (.mv (.t 12))]
abbrev x65F : AF := ⟨13, (.seq (.reg x65r0) (.seq (.reg x65r1) (.seq (.reg x65r2) .ret))), [.mv (.t 4)]⟩
theorem x65ok : afOf Tryz.prog (hintsOf Tryz.prog 74) 74 = some x65F := by kernel_rfl
/-! optimizer.without[optimizer.value] -/
abbrev x66r0 : List AO :=
 [o1 4 (.bx 119 0 (.t 1)),o1 6 (.mv (.c .sl0))]
abbrev x66r1 : List AO :=
 [o1 7 (.mv (.c .sl0))]
abbrev x66r2 : List AO :=
 [o1 10 (.mv (.t 0)),o1 11 (.len (.t 10)),o1 12 (.mv (.c (.n .i64 0)))]
abbrev x66r3 : List AO :=
 [o1 13 (.bin .lss (.t 12) (.t 11))]
abbrev x66r4 : List AO :=
 [o1 14 (.ia 5 (.t 10) (.t 12)),o1 15 (.ld 5 true (.t 14)),o1 9 (.al 111 [.n .i64 0, .n .i64 0, .n .i64 0, .n .i64 0, .n .u32 0]),⟨none, none, .ap (.st 5 (.t 9) (.t 15))⟩]
abbrev x66r5 : List AO :=
 [o1 16 (.mv (.t 2)),o1 17 (.mf 116 [] [(.t 4), (.t 9)]),⟨some 18, none, .cl (.c (.f 107 [] [])) [(.t 16), (.t 17)]⟩,o1 19 (.un .not (.t 18))]
abbrev x66r6 : List AO :=
 [o1 20 (.mv (.t 7)),o1 21 (.ld 5 true (.t 9)),o1 22 (.bs 111 5 1 [.n .i64 0, .n .i64 0, .n .i64 0, .n .i64 0, .n .u32 0] [(0, 5, (.t 21))]),o1 23 (.app 111 5 40 (.t 20) (.t 22)),o1 7 (.mv (.t 23))]
abbrev x66k7 : AC :=
 (.seq (.reg x66r4) (.seq (.reg x66r5) (.cond (.t 19) (.reg x66r6) .skip)))
abbrev x66r8 : List AO :=
 [o1 24 (.bin .add (.t 12) (.c (.n .i64 1))),o1 12 (.mv (.t 24))]
abbrev x66b9 : AC :=
 (.seq (.reg x66r3) (.seq (.cond (.t 13) .skip (.exit 0)) (.seq (.block 1 x66k7) (.reg x66r8))))
abbrev x66k10 : AC :=
 (.loop x66b9)
abbrev x66r11 : List AO :=
 [o1 25 (.mv (.t 7)),o1 6 (.mv (.t 25))]
abbrev x66F : AF := ⟨26, (.seq (.reg x66r0) (.seq (.reg x66r1) (.seq (.seq (.reg x66r2) (.block 0 x66k10)) (.seq (.reg x66r11) .ret)))), [.mv (.t 6)]⟩
theorem x66ok : afOf Tryz.prog (hintsOf Tryz.prog 99) 99 = some x66F := by kernel_rfl
/-! optimizer.both[optimizer.value] -/
abbrev x67r0 : List AO :=
 [o1 4 (.mv (.c .sl0))]
abbrev x67r1 : List AO :=
 [o1 5 (.mv (.c .sl0))]
abbrev x67r2 : List AO :=
 [o1 8 (.mv (.t 0)),o1 9 (.len (.t 8)),o1 10 (.mv (.c (.n .i64 0)))]
abbrev x67r3 : List AO :=
 [o1 11 (.bin .lss (.t 10) (.t 9))]
abbrev x67r4 : List AO :=
 [o1 12 (.ia 5 (.t 8) (.t 10)),o1 13 (.ld 5 true (.t 12)),o1 7 (.al 111 [.n .i64 0, .n .i64 0, .n .i64 0, .n .i64 0, .n .u32 0]),⟨none, none, .ap (.st 5 (.t 7) (.t 13))⟩]
abbrev x67r5 : List AO :=
 [o1 14 (.mv (.t 1)),o1 15 (.ld 5 true (.t 7)),⟨some 16, none, .cl (.c (.f 117 [] [])) [(.t 14), (.t 15)]⟩]
abbrev x67r6 : List AO :=
 [o1 17 (.mv (.t 5)),o1 18 (.ld 5 true (.t 7)),o1 19 (.bs 111 5 1 [.n .i64 0, .n .i64 0, .n .i64 0, .n .i64 0, .n .u32 0] [(0, 5, (.t 18))]),o1 20 (.app 111 5 40 (.t 17) (.t 19)),o1 5 (.mv (.t 20))]
abbrev x67k7 : AC :=
 (.seq (.reg x67r4) (.seq (.reg x67r5) (.cond (.t 16) (.reg x67r6) .skip)))
abbrev x67r8 : List AO :=
 [o1 21 (.bin .add (.t 10) (.c (.n .i64 1))),o1 10 (.mv (.t 21))]
abbrev x67b9 : AC :=
 (.seq (.reg x67r3) (.seq (.cond (.t 11) .skip (.exit 0)) (.seq (.block 1 x67k7) (.reg x67r8))))
abbrev x67k10 : AC :=
 (.loop x67b9)
abbrev x67r11 : List AO :=
 [o1 22 (.mv (.t 5)),o1 4 (.mv (.t 22))]
abbrev x67F : AF := ⟨23, (.seq (.reg x67r0) (.seq (.reg x67r1) (.seq (.seq (.reg x67r2) (.block 0 x67k10)) (.seq (.reg x67r11) .ret)))), [.mv (.t 4)]⟩
theorem x67ok : afOf Tryz.prog (hintsOf Tryz.prog 100) 100 = some x67F := by kernel_rfl
/-! optimizer.without[optimizer.value]$1 -/
abbrev x68r0 : List AO :=
 [o1 3 (.bx 37 0 (.t 0)),o1 4 (.mv (.c (.b false)))]
abbrev x68r1 : List AO :=
 [o1 5 (.fa 0 (.t 1)),o1 6 (.ld 1 false (.t 5)),o1 7 (.ld 5 true (.t 3)),o1 8 (.ld 5 true (.t 2)),⟨some 9, none, .cl (.t 6) [(.t 7), (.t 8)]⟩,o1 4 (.mv (.t 9))]
abbrev x68F : AF := ⟨10, (.seq (.reg x68r0) (.seq (.reg x68r1) .ret)), [.mv (.t 4)]⟩
theorem x68ok : afOf Tryz.prog (hintsOf Tryz.prog 116) 116 = some x68F := by kernel_rfl
/-! slices.Contains[[]optimizer.value,optimizer.value] -/
abbrev x69r0 : List AO :=
 [o1 3 (.bx 111 0 (.t 1)),o1 4 (.mv (.c (.b false)))]
abbrev x69r1 : List AO :=
 [o1 5 (.mv (.t 0)),o1 6 (.ld 5 true (.t 3)),⟨some 7, none, .cl (.c (.f 141 [] [])) [(.t 5), (.t 6)]⟩,o1 8 (.bin .geq (.t 7) (.c (.n .i64 0))),o1 4 (.mv (.t 8))]
abbrev x69F : AF := ⟨9, (.seq (.reg x69r0) (.seq (.reg x69r1) .ret)), [.mv (.t 4)]⟩
theorem x69ok : afOf Tryz.prog (hintsOf Tryz.prog 117) 117 = some x69F := by kernel_rfl
/-! slices.Index[[]optimizer.value,optimizer.value] -/
abbrev x70r0 : List AO :=
 [o1 3 (.bx 111 0 (.t 1)),o1 4 (.mv (.c (.n .i64 0)))]
abbrev x70r1 : List AO :=
 [o1 6 (.mv (.t 0)),o1 7 (.len (.t 6)),o1 8 (.mv (.c (.n .i64 0)))]
abbrev x70r2 : List AO :=
 [o1 9 (.bin .lss (.t 8) (.t 7))]
abbrev x70r3 : List AO :=
 [o1 10 (.mv (.t 8)),o1 5 (.mv (.t 10))]
abbrev x70m4 : List (Nat × AO) :=
 [(2, (o1 12 (.mv (.t 0)))),(2, (o1 13 (.mv (.t 5)))),(2, (o1 14 (.ia 5 (.t 12) (.t 13)))),(1, (o1 11 (.ld 5 true (.t 3)))),(1, (o1 15 (.ld 5 true (.t 14)))),(2, (o1 16 (.eq false (.st [(0, 5, .st [(0, 1, .n), (1, 1, .n), (2, 1, .n), (3, 1, .n), (4, 1, .n)])]) (.t 11) (.t 15))))]
abbrev x70r5 : List AO :=
 [o1 17 (.mv (.t 5)),o1 4 (.mv (.t 17))]
abbrev x70k6 : AC :=
 (.seq (.reg x70r3) (.seq (.mix x70m4) (.cond (.t 16) (.seq (.reg x70r5) .ret) .skip)))
abbrev x70r7 : List AO :=
 [o1 18 (.bin .add (.t 8) (.c (.n .i64 1))),o1 8 (.mv (.t 18))]
abbrev x70b8 : AC :=
 (.seq (.reg x70r2) (.seq (.cond (.t 9) .skip (.exit 0)) (.seq (.block 1 x70k6) (.reg x70r7))))
abbrev x70k9 : AC :=
 (.loop x70b8)
abbrev x70r10 : List AO :=
 [o1 4 (.mv (.c (.n .i64 (-1))))]
abbrev x70F : AF := ⟨19, (.seq (.reg x70r0) (.seq (.seq (.reg x70r1) (.block 0 x70k9)) (.seq (.reg x70r10) .ret))), [.mv (.t 4)]⟩
theorem x70ok : afOf Tryz.prog (hintsOf Tryz.prog 141) 141 = some x70F := by kernel_rfl
/-! compactorref24.Share -/
/-! compactorref24.keep -/
/-! compactorref24.changes -/
/-! compactorref24.bothFacts -/
/-! compactorref24.expression -/
abbrev x71r0 : List AO :=
 [o1 2 (.mv (.c (.b false)))]
abbrev x71r1 : List AO :=
 [o1 3 (.mv (.t 0)),o1 4 (.bin .eql (.t 3) (.c (.n .i64 3))),o1 5 (.mv (.t 4)),⟨some 6, some (5, false), .ap (.mv (.t 0))⟩,⟨some 7, some (5, false), .ap (.bin .geq (.t 6) (.c (.n .i64 8)))⟩,⟨some 8, some (5, false), .ap (.mv (.t 7))⟩,⟨some 9, some (8, true), .ap (.mv (.t 0))⟩,⟨some 10, some (8, true), .ap (.bin .leq (.t 9) (.c (.n .i64 26)))⟩,⟨some 11, some (5, false), .ap (.pick (.t 8) (.t 10) (.c (.b false)))⟩,o1 12 (.pick (.t 5) (.c (.b true)) (.t 11)),o1 13 (.mv (.t 12)),⟨some 14, some (13, false), .ap (.mv (.t 0))⟩,⟨some 15, some (13, false), .ap (.bin .eql (.t 14) (.c (.n .i64 32)))⟩,o1 16 (.pick (.t 13) (.c (.b true)) (.t 15)),o1 17 (.mv (.t 16)),⟨some 18, some (17, false), .ap (.mv (.t 0))⟩,⟨some 19, some (17, false), .ap (.bin .eql (.t 18) (.c (.n .i64 33)))⟩,o1 20 (.pick (.t 17) (.c (.b true)) (.t 19)),o1 2 (.mv (.t 20))]
abbrev x71F : AF := ⟨21, (.seq (.reg x71r0) (.seq (.reg x71r1) .ret)), [.mv (.t 2)]⟩
theorem x71ok : afOf Tryz.prog (hintsOf Tryz.prog 45) 45 = some x71F := by kernel_rfl
/-! compactorref24.find -/
/-! compactorlaw24.OptimizerShares -/
end Go.Proofs.YtidhfimbnjaceaaGreat

namespace Go.Proofs.YtidhfimbnjaceaaGreat
open Go.RowKit
set_option linter.unusedVariables false
/-! optimizer.Optimize -/
abbrev x72r0 : List AO :=
 [o1 1 (.bx 25 0 (.t 0)),o1 2 (.al 25 [.sl0, .n .i64 0, .n .i64 0, .sl0]),o1 3 (.mv (.c (.n .i64 0)))]
abbrev x72r1 : List AO :=
 [o1 4 (.ld 4 true (.t 1)),⟨some 5, none, .cl (.c (.f 24 [] [])) [(.t 4), (.c (.f 51 [] []))]⟩,o1 6 (.ext 0 (.t 5)),o1 7 (.ext 1 (.t 5)),⟨none, none, .ap (.st 4 (.t 2) (.t 6))⟩,o1 3 (.mv (.t 7))]
abbrev x72F : AF := ⟨8, (.seq (.reg x72r0) (.seq (.reg x72r1) .ret)), [.ld 4 true (.t 2), .mv (.t 3)]⟩
theorem x72ok : afOf Tryz.prog (hintsOf Tryz.prog 19) 19 = some x72F := by kernel_rfl
/-! compactorref24.Optimize -/
/-! optimizer.Optimize$1 -/
abbrev x73r0 : List AO :=
 [o1 1 (.bx 25 0 (.t 0)),o1 2 (.mv (.c .sl0))]
abbrev x73r1 : List AO :=
 [o1 6 (.mv (.c (.n .i64 0)))]
abbrev x73r2 : List AO :=
 [o1 7 (.bin .lss (.t 6) (.c (.n .i64 8)))]
abbrev x73r3 : List AO :=
 [o1 8 (.ld 4 true (.t 1)),o1 3 (.al 25 [.sl0, .n .i64 0, .n .i64 0, .sl0]),⟨none, none, .ap (.st 4 (.t 3) (.t 8))⟩]
abbrev x73r4 : List AO :=
 [o1 9 (.bs 40 1 4 [.f0, .f0, .f0, .f0] [(0, 1, (.c (.f 25 [] []))), (1, 1, (.c (.f 36 [] []))), (2, 1, (.c (.f 41 [] []))), (3, 1, (.c (.f 47 [] [])))]),o1 10 (.len (.t 9)),o1 11 (.mv (.c (.n .i64 0)))]
abbrev x73r5 : List AO :=
 [o1 12 (.bin .lss (.t 11) (.t 10))]
abbrev x73r6 : List AO :=
 [o1 13 (.ia 1 (.t 9) (.t 11)),o1 14 (.ld 1 false (.t 13)),o1 5 (.mv (.t 14))]
abbrev x73m7 : List (Nat × AO) :=
 [(2, (o1 16 (.mv (.t 5)))),(1, (o1 15 (.ld 4 true (.t 3)))),(1, (o1 17 (.ld 4 true (.t 3)))),(0, ⟨some 18, none, .cl (.t 16) [(.t 17)]⟩),(3, ⟨some 19, none, .cl (.c (.f 52 [] [])) [(.t 15), (.t 18)]⟩),(3, ⟨none, none, .ap (.st 4 (.t 3) (.t 19))⟩)]
abbrev x73k8 : AC :=
 (.seq (.reg x73r6) (.mix x73m7))
abbrev x73r9 : List AO :=
 [o1 20 (.bin .add (.t 11) (.c (.n .i64 1))),o1 11 (.mv (.t 20))]
abbrev x73b10 : AC :=
 (.seq (.reg x73r5) (.seq (.cond (.t 12) .skip (.exit 2)) (.seq (.block 3 x73k8) (.reg x73r9))))
abbrev x73k11 : AC :=
 (.loop x73b10)
abbrev x73r12 : List AO :=
 [o1 21 (.fa 3 (.t 1)),o1 22 (.ld 1 false (.t 21)),o1 23 (.fa 3 (.t 3)),o1 24 (.ld 1 false (.t 23)),⟨some 25, none, .cl (.c (.f 53 [] [])) [(.t 22), (.t 24)]⟩]
abbrev x73r13 : List AO :=
 [o1 26 (.ld 4 true (.t 3)),⟨none, none, .ap (.st 4 (.t 1) (.t 26))⟩]
abbrev x73k14 : AC :=
 (.seq (.reg x73r3) (.seq (.seq (.reg x73r4) (.block 2 x73k11)) (.seq (.seq (.reg x73r12) (.cond (.t 25) (.exit 0) .skip)) (.reg x73r13))))
abbrev x73r15 : List AO :=
 [o1 27 (.bin .add (.t 6) (.c (.n .i64 1))),o1 6 (.mv (.t 27))]
abbrev x73b16 : AC :=
 (.seq (.reg x73r2) (.seq (.cond (.t 7) .skip (.exit 0)) (.seq (.block 1 x73k14) (.reg x73r15))))
abbrev x73k17 : AC :=
 (.loop x73b16)
abbrev x73r18 : List AO :=
 [o1 28 (.fa 3 (.t 1)),o1 29 (.ld 1 false (.t 28)),o1 2 (.mv (.t 29))]
abbrev x73F : AF := ⟨30, (.seq (.reg x73r0) (.seq (.seq (.reg x73r1) (.block 0 x73k17)) (.seq (.reg x73r18) .ret))), [.mv (.t 2)]⟩
theorem x73ok : afOf Tryz.prog (hintsOf Tryz.prog 51) 51 = some x73F := by kernel_rfl
/-! slices.Equal[[]api.RegInstr,api.RegInstr] -/
abbrev x74r0 : List AO :=
 [o1 4 (.mv (.c (.b false)))]
abbrev x74r1 : List AO :=
 [o1 6 (.mv (.t 0)),o1 7 (.len (.t 6)),o1 8 (.mv (.t 1)),o1 9 (.len (.t 8)),o1 10 (.bin .neq (.t 7) (.t 9))]
abbrev x74r2 : List AO :=
 [o1 4 (.mv (.c (.b false)))]
abbrev x74r3 : List AO :=
 [o1 11 (.mv (.t 0)),o1 12 (.len (.t 11)),o1 13 (.mv (.c (.n .i64 0)))]
abbrev x74r4 : List AO :=
 [o1 14 (.bin .lss (.t 13) (.t 12))]
abbrev x74r5 : List AO :=
 [o1 15 (.mv (.t 13)),o1 5 (.mv (.t 15))]
abbrev x74m6 : List (Nat × AO) :=
 [(2, (o1 16 (.mv (.t 0)))),(2, (o1 17 (.mv (.t 5)))),(2, (o1 18 (.ia 5 (.t 16) (.t 17)))),(2, (o1 20 (.mv (.t 1)))),(2, (o1 21 (.mv (.t 5)))),(2, (o1 22 (.ia 5 (.t 20) (.t 21)))),(1, (o1 19 (.ld 5 true (.t 18)))),(1, (o1 23 (.ld 5 true (.t 22)))),(2, (o1 24 (.eq true (.st [(0, 1, .n), (1, 1, .n), (2, 1, .n), (3, 1, .n), (4, 1, .n)]) (.t 19) (.t 23))))]
abbrev x74r7 : List AO :=
 [o1 4 (.mv (.c (.b false)))]
abbrev x74k8 : AC :=
 (.seq (.reg x74r5) (.seq (.mix x74m6) (.cond (.t 24) (.seq (.reg x74r7) .ret) .skip)))
abbrev x74r9 : List AO :=
 [o1 25 (.bin .add (.t 13) (.c (.n .i64 1))),o1 13 (.mv (.t 25))]
abbrev x74b10 : AC :=
 (.seq (.reg x74r4) (.seq (.cond (.t 14) .skip (.exit 0)) (.seq (.block 1 x74k8) (.reg x74r9))))
abbrev x74k11 : AC :=
 (.loop x74b10)
abbrev x74r12 : List AO :=
 [o1 4 (.mv (.c (.b true)))]
abbrev x74F : AF := ⟨26, (.seq (.reg x74r0) (.seq (.seq (.reg x74r1) (.cond (.t 10) (.seq (.reg x74r2) .ret) .skip)) (.seq (.seq (.reg x74r3) (.block 0 x74k11)) (.seq (.reg x74r12) .ret)))), [.mv (.t 4)]⟩
theorem x74ok : afOf Tryz.prog (hintsOf Tryz.prog 53) 53 = some x74F := by kernel_rfl
/-! compactorlaw24.OptimizerOptimizes -/
end Go.Proofs.YtidhfimbnjaceaaGreat

namespace Go.Proofs.YtidhfimbnjaceaaGreat
open Go.RowKit
set_option linter.unusedVariables false
/-! compactorlaw24.code -/
abbrev x75r0 : List AO :=
 [o1 2 (.al 25 [.sl0, .n .i64 0, .n .i64 0, .sl0])]
abbrev x75r1 : List AO :=
 [o1 3 (.mv (.t 0)),o1 4 (.bd [.sl0, .n .i64 0, .n .i64 0, .sl0] [(1, 1, (.c (.n .i64 4))), (3, 1, (.t 3))]),⟨none, none, .ap (.st 4 (.t 2) (.t 4))⟩]
abbrev x75F : AF := ⟨5, (.seq (.reg x75r0) (.seq (.reg x75r1) .ret)), [.ld 4 true (.t 2)]⟩
theorem x75ok : afOf Tryz.prog (hintsOf Tryz.prog 22) 22 = some x75F := by kernel_rfl
/-! compactorlaw24.i -/
abbrev x76r0 : List AO :=
 [o1 10 (.al 37 [.n .i64 0, .n .i64 0, .n .i64 0, .n .i64 0, .n .u32 0])]
abbrev x76r1 : List AO :=
 [o1 11 (.mv (.t 0)),o1 12 (.mv (.t 1)),o1 13 (.mv (.t 2)),o1 14 (.mv (.t 3)),o1 15 (.mv (.t 4)),o1 16 (.bd [.n .i64 0, .n .i64 0, .n .i64 0, .n .i64 0, .n .u32 0] [(0, 1, (.t 11)), (1, 1, (.t 12)), (2, 1, (.t 13)), (3, 1, (.t 14)), (4, 1, (.t 15))]),⟨none, none, .ap (.st 5 (.t 10) (.t 16))⟩]
abbrev x76F : AF := ⟨17, (.seq (.reg x76r0) (.seq (.reg x76r1) .ret)), [.ld 5 true (.t 10)]⟩
theorem x76ok : afOf Tryz.prog (hintsOf Tryz.prog 23) 23 = some x76F := by kernel_rfl
end Go.Proofs.YtidhfimbnjaceaaGreat
