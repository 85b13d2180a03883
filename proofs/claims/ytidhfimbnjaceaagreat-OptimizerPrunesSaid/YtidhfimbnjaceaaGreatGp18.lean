/- A part of the proof of OptimizerPrunes: D E0 Rb. No condition. -/
import Derived.Carry
import Derived.Lib.Hide
import Derived.Test.YtidhfimbnjaceaaGreatGp16
import Derived.Test.YtidhfimbnjaceaaGreatGp17
import Derived.Test.YtidhfimbnjaceaaGreatGp03
set_option linter.unusedSimpArgs false
set_option linter.unusedVariables false
set_option linter.constructorNameAsVariable false
set_option maxRecDepth 100000
set_option maxHeartbeats 4000000
namespace Go.Proofs.YtidhfimbnjaceaaGreat
open Go.RowKit
set_option linter.unusedVariables false
def combEntries : Array MapEntry := #[{ key := .int .i64 8, val := .func (.func 120) #[] #[], born := 0 },
 { key := .int .i64 9, val := .func (.func 121) #[] #[], born := 1 },
 { key := .int .i64 10, val := .func (.func 122) #[] #[], born := 2 },
 { key := .int .i64 11, val := .func (.func 123) #[] #[], born := 3 },
 { key := .int .i64 12, val := .func (.func 124) #[] #[], born := 4 },
 { key := .int .i64 13, val := .func (.func 125) #[] #[], born := 5 },
 { key := .int .i64 14, val := .func (.func 126) #[] #[], born := 6 },
 { key := .int .i64 15, val := .func (.func 127) #[] #[], born := 7 },
 { key := .int .i64 16, val := .func (.func 128) #[] #[], born := 8 },
 { key := .int .i64 17, val := .func (.func 129) #[] #[], born := 9 },
 { key := .int .i64 18, val := .func (.func 130) #[] #[], born := 10 },
 { key := .int .i64 19, val := .func (.func 131) #[] #[], born := 11 },
 { key := .int .i64 20, val := .func (.func 132) #[] #[], born := 12 },
 { key := .int .i64 21, val := .func (.func 133) #[] #[], born := 13 },
 { key := .int .i64 22, val := .func (.func 135) #[] #[], born := 14 },
 { key := .int .i64 23, val := .func (.func 136) #[] #[], born := 15 },
 { key := .int .i64 24, val := .func (.func 137) #[] #[], born := 16 },
 { key := .int .i64 25, val := .func (.func 138) #[] #[], born := 17 },
 { key := .int .i64 26, val := .func (.func 139) #[] #[], born := 18 }]
theorem combinations_any (w : World) :
  Calls Tryz.prog 113 #[] w fun e w' => e = .returned (.map (some w.heap.size)) ∧ w' = w.alloc (.map combEntries 19) := by
 have hmm := fun (t : TypeId) (w : World) => run_makeMap (P := Tryz.prog) t w
 have hup := fun (w : World) es c k v h => run_insert_new (P := Tryz.prog) (T := 166) Tryz.underlying166 Tryz.underlying3 w es c k v h
 have hup0 := fun (w : World) k v => run_insert_new (P := Tryz.prog) (T := 166) Tryz.underlying166 Tryz.underlying3 w #[] 0 k v rfl
 go_enter Tryz.func113, Tryz.ntmps113
 go_wp2
 go_ret
 exact ⟨rfl, rfl⟩
theorem zero_comb (w : World) : (zeroValue 143).run Tryz.prog w = .ok .nilFunc w := by kernel_rfl
theorem comb_keys : intKeys combEntries.toList = true := by decide
theorem ret_two {k l : IntKind} {a b c d : Int} (h : a = b) (h2 : c = d) : Ending.returned (.tuple #[.int k a, .int l c]) = .returned (.tuple #[.int k b, .int l d]) := by rw [h, h2]
theorem arith_8 (a b : Int) : arith 8 a b = (a + b) % 4294967296 := by simp [arith]
theorem arith_9 (a b : Int) : arith 9 a b = (a - b) % 4294967296 := by simp [arith]
theorem arith_10 (a b : Int) : arith 10 a b = (a * b) % 4294967296 := by simp [arith]
theorem arith_11 (a b : Int) : arith 11 a b = a / b := by simp [arith]
theorem arith_12 (a b : Int) : arith 12 a b = a % b := by simp [arith]
theorem arith_13 (a b : Int) : arith 13 a b = bits .and .u32 a b := by simp [arith]
theorem arith_14 (a b : Int) : arith 14 a b = bits .or .u32 a b := by simp [arith]
theorem arith_15 (a b : Int) : arith 15 a b = bits .xor .u32 a b := by simp [arith]
theorem arith_16 (a b : Int) : arith 16 a b = a * 2 ^ (b % 32).toNat % 4294967296 := by simp [arith]
theorem arith_17 (a b : Int) : arith 17 a b = a / 2 ^ (b % 32).toNat := by simp [arith]
theorem arith_18 (a b : Int) : arith 18 a b = min a b := by simp [arith]
theorem arith_19 (a b : Int) : arith 19 a b = max a b := by simp [arith]
theorem arith_20 (a b : Int) : arith 20 a b = hash32 a b := by simp [arith]
theorem arith_21 (a b : Int) : arith 21 a b = flagI (a == b) := by simp [arith]
theorem arith_22 (a b : Int) : arith 22 a b = flagI (decide (a < b)) := by simp [arith]
theorem arith_23 (a b : Int) : arith 23 a b = flagI (a == 0) := by simp [arith]
theorem arith_24 (a b : Int) : arith 24 a b = flagI (a != 0 && b != 0) := by simp [arith]
theorem arith_25 (a b : Int) : arith 25 a b = flagI (a != 0 || b != 0) := by simp [arith]
theorem arith_26 (a b : Int) : arith 26 a b = flagI (a != 0) := by simp [arith]
theorem apply_8 (a b : Int) (ha0 : 0 ≤ a) (ha1 : a < 4294967296) (hb0 : 0 ≤ b) (hb1 : b < 4294967296) (w : World) :
  Calls Tryz.prog 92 #[.int .i64 8, .int .u32 a, .int .u32 b] w fun e w' => e = .returned (.tuple #[.int .u32 (arith 8 a b), .int .i64 0]) ∧ Below w.heap.size w w' := by
 have hl := run_lookup_int (P := Tryz.prog) (T := 166) Tryz.underlying166 Tryz.underlying3 (w.alloc (.map combEntries 19)) w.heap.size combEntries 19 (heap_alloc_new w _) 8 comb_keys .nilFunc (zero_comb _)
 have hv : atInt 8 combEntries.toList = some (.func (.func 120) #[] #[]) := by rfl
 rw [hv] at hl
 simp only [Option.getD_some, Option.isSome_some] at hl
 rcases Bool.eq_false_or_eq_true (b == 0) with hz | hz
 all_goals go_enter Tryz.func92, Tryz.ntmps92
 all_goals go_wp2_with (first | (go_at_call 113; refine (combinations_any _).mono ?_; rintro e w' ⟨rfl, rfl⟩) | (go_at_call 120; refine (comb1 a b ha0 ha1 hb0 hb1 _).mono ?_; rintro e w' ⟨rfl, rfl⟩))
 all_goals go_ret2
 all_goals exact ⟨ret_two (arith_8 a b).symm rfl, (Below.refl _ _).alloc (Nat.le_refl _) _⟩
theorem apply_9 (a b : Int) (ha0 : 0 ≤ a) (ha1 : a < 4294967296) (hb0 : 0 ≤ b) (hb1 : b < 4294967296) (w : World) :
  Calls Tryz.prog 92 #[.int .i64 9, .int .u32 a, .int .u32 b] w fun e w' => e = .returned (.tuple #[.int .u32 (arith 9 a b), .int .i64 0]) ∧ Below w.heap.size w w' := by
 have hl := run_lookup_int (P := Tryz.prog) (T := 166) Tryz.underlying166 Tryz.underlying3 (w.alloc (.map combEntries 19)) w.heap.size combEntries 19 (heap_alloc_new w _) 9 comb_keys .nilFunc (zero_comb _)
 have hv : atInt 9 combEntries.toList = some (.func (.func 121) #[] #[]) := by rfl
 rw [hv] at hl
 simp only [Option.getD_some, Option.isSome_some] at hl
 rcases Bool.eq_false_or_eq_true (b == 0) with hz | hz
 all_goals go_enter Tryz.func92, Tryz.ntmps92
 all_goals go_wp2_with (first | (go_at_call 113; refine (combinations_any _).mono ?_; rintro e w' ⟨rfl, rfl⟩) | (go_at_call 121; refine (comb2 a b ha0 ha1 hb0 hb1 _).mono ?_; rintro e w' ⟨rfl, rfl⟩))
 all_goals go_ret2
 all_goals exact ⟨ret_two (arith_9 a b).symm rfl, (Below.refl _ _).alloc (Nat.le_refl _) _⟩
theorem apply_10 (a b : Int) (ha0 : 0 ≤ a) (ha1 : a < 4294967296) (hb0 : 0 ≤ b) (hb1 : b < 4294967296) (w : World) :
  Calls Tryz.prog 92 #[.int .i64 10, .int .u32 a, .int .u32 b] w fun e w' => e = .returned (.tuple #[.int .u32 (arith 10 a b), .int .i64 0]) ∧ Below w.heap.size w w' := by
 have hl := run_lookup_int (P := Tryz.prog) (T := 166) Tryz.underlying166 Tryz.underlying3 (w.alloc (.map combEntries 19)) w.heap.size combEntries 19 (heap_alloc_new w _) 10 comb_keys .nilFunc (zero_comb _)
 have hv : atInt 10 combEntries.toList = some (.func (.func 122) #[] #[]) := by rfl
 rw [hv] at hl
 simp only [Option.getD_some, Option.isSome_some] at hl
 rcases Bool.eq_false_or_eq_true (b == 0) with hz | hz
 all_goals go_enter Tryz.func92, Tryz.ntmps92
 all_goals go_wp2_with (first | (go_at_call 113; refine (combinations_any _).mono ?_; rintro e w' ⟨rfl, rfl⟩) | (go_at_call 122; refine (comb3 a b ha0 ha1 hb0 hb1 _).mono ?_; rintro e w' ⟨rfl, rfl⟩))
 all_goals go_ret2
 all_goals exact ⟨ret_two (arith_10 a b).symm rfl, (Below.refl _ _).alloc (Nat.le_refl _) _⟩
theorem apply_11 (a b : Int) (ha0 : 0 ≤ a) (ha1 : a < 4294967296) (hb0 : 0 ≤ b) (hb1 : b < 4294967296) (hb : ¬ b = 0) (w : World) :
  Calls Tryz.prog 92 #[.int .i64 11, .int .u32 a, .int .u32 b] w fun e w' => e = .returned (.tuple #[.int .u32 (arith 11 a b), .int .i64 0]) ∧ Below w.heap.size w w' := by
 have hl := run_lookup_int (P := Tryz.prog) (T := 166) Tryz.underlying166 Tryz.underlying3 (w.alloc (.map combEntries 19)) w.heap.size combEntries 19 (heap_alloc_new w _) 11 comb_keys .nilFunc (zero_comb _)
 have hv : atInt 11 combEntries.toList = some (.func (.func 123) #[] #[]) := by rfl
 rw [hv] at hl
 simp only [Option.getD_some, Option.isSome_some] at hl
 have hb' : (b == 0) = false := by simpa using hb
 go_enter Tryz.func92, Tryz.ntmps92
 go_wp2_with (first | (go_at_call 113; refine (combinations_any _).mono ?_; rintro e w' ⟨rfl, rfl⟩) | (go_at_call 123; refine (comb4 a b ha0 ha1 hb0 hb1 hb _).mono ?_; rintro e w' ⟨rfl, rfl⟩))
 all_goals go_ret2
 all_goals exact ⟨ret_two (arith_11 a b).symm rfl, (Below.refl _ _).alloc (Nat.le_refl _) _⟩
theorem apply_12 (a b : Int) (ha0 : 0 ≤ a) (ha1 : a < 4294967296) (hb0 : 0 ≤ b) (hb1 : b < 4294967296) (hb : ¬ b = 0) (w : World) :
  Calls Tryz.prog 92 #[.int .i64 12, .int .u32 a, .int .u32 b] w fun e w' => e = .returned (.tuple #[.int .u32 (arith 12 a b), .int .i64 0]) ∧ Below w.heap.size w w' := by
 have hl := run_lookup_int (P := Tryz.prog) (T := 166) Tryz.underlying166 Tryz.underlying3 (w.alloc (.map combEntries 19)) w.heap.size combEntries 19 (heap_alloc_new w _) 12 comb_keys .nilFunc (zero_comb _)
 have hv : atInt 12 combEntries.toList = some (.func (.func 124) #[] #[]) := by rfl
 rw [hv] at hl
 simp only [Option.getD_some, Option.isSome_some] at hl
 have hb' : (b == 0) = false := by simpa using hb
 go_enter Tryz.func92, Tryz.ntmps92
 go_wp2_with (first | (go_at_call 113; refine (combinations_any _).mono ?_; rintro e w' ⟨rfl, rfl⟩) | (go_at_call 124; refine (comb5 a b ha0 ha1 hb0 hb1 hb _).mono ?_; rintro e w' ⟨rfl, rfl⟩))
 all_goals go_ret2
 all_goals exact ⟨ret_two (arith_12 a b).symm rfl, (Below.refl _ _).alloc (Nat.le_refl _) _⟩
theorem apply_13 (a b : Int) (ha0 : 0 ≤ a) (ha1 : a < 4294967296) (hb0 : 0 ≤ b) (hb1 : b < 4294967296) (w : World) :
  Calls Tryz.prog 92 #[.int .i64 13, .int .u32 a, .int .u32 b] w fun e w' => e = .returned (.tuple #[.int .u32 (arith 13 a b), .int .i64 0]) ∧ Below w.heap.size w w' := by
 have hl := run_lookup_int (P := Tryz.prog) (T := 166) Tryz.underlying166 Tryz.underlying3 (w.alloc (.map combEntries 19)) w.heap.size combEntries 19 (heap_alloc_new w _) 13 comb_keys .nilFunc (zero_comb _)
 have hv : atInt 13 combEntries.toList = some (.func (.func 125) #[] #[]) := by rfl
 rw [hv] at hl
 simp only [Option.getD_some, Option.isSome_some] at hl
 rcases Bool.eq_false_or_eq_true (b == 0) with hz | hz
 all_goals go_enter Tryz.func92, Tryz.ntmps92
 all_goals go_wp2_with (first | (go_at_call 113; refine (combinations_any _).mono ?_; rintro e w' ⟨rfl, rfl⟩) | (go_at_call 125; refine (comb6 a b ha0 ha1 hb0 hb1 _).mono ?_; rintro e w' ⟨rfl, rfl⟩))
 all_goals go_ret2
 all_goals exact ⟨ret_two (arith_13 a b).symm rfl, (Below.refl _ _).alloc (Nat.le_refl _) _⟩
theorem apply_14 (a b : Int) (ha0 : 0 ≤ a) (ha1 : a < 4294967296) (hb0 : 0 ≤ b) (hb1 : b < 4294967296) (w : World) :
  Calls Tryz.prog 92 #[.int .i64 14, .int .u32 a, .int .u32 b] w fun e w' => e = .returned (.tuple #[.int .u32 (arith 14 a b), .int .i64 0]) ∧ Below w.heap.size w w' := by
 have hl := run_lookup_int (P := Tryz.prog) (T := 166) Tryz.underlying166 Tryz.underlying3 (w.alloc (.map combEntries 19)) w.heap.size combEntries 19 (heap_alloc_new w _) 14 comb_keys .nilFunc (zero_comb _)
 have hv : atInt 14 combEntries.toList = some (.func (.func 126) #[] #[]) := by rfl
 rw [hv] at hl
 simp only [Option.getD_some, Option.isSome_some] at hl
 rcases Bool.eq_false_or_eq_true (b == 0) with hz | hz
 all_goals go_enter Tryz.func92, Tryz.ntmps92
 all_goals go_wp2_with (first | (go_at_call 113; refine (combinations_any _).mono ?_; rintro e w' ⟨rfl, rfl⟩) | (go_at_call 126; refine (comb7 a b ha0 ha1 hb0 hb1 _).mono ?_; rintro e w' ⟨rfl, rfl⟩))
 all_goals go_ret2
 all_goals exact ⟨ret_two (arith_14 a b).symm rfl, (Below.refl _ _).alloc (Nat.le_refl _) _⟩
theorem apply_15 (a b : Int) (ha0 : 0 ≤ a) (ha1 : a < 4294967296) (hb0 : 0 ≤ b) (hb1 : b < 4294967296) (w : World) :
  Calls Tryz.prog 92 #[.int .i64 15, .int .u32 a, .int .u32 b] w fun e w' => e = .returned (.tuple #[.int .u32 (arith 15 a b), .int .i64 0]) ∧ Below w.heap.size w w' := by
 have hl := run_lookup_int (P := Tryz.prog) (T := 166) Tryz.underlying166 Tryz.underlying3 (w.alloc (.map combEntries 19)) w.heap.size combEntries 19 (heap_alloc_new w _) 15 comb_keys .nilFunc (zero_comb _)
 have hv : atInt 15 combEntries.toList = some (.func (.func 127) #[] #[]) := by rfl
 rw [hv] at hl
 simp only [Option.getD_some, Option.isSome_some] at hl
 rcases Bool.eq_false_or_eq_true (b == 0) with hz | hz
 all_goals go_enter Tryz.func92, Tryz.ntmps92
 all_goals go_wp2_with (first | (go_at_call 113; refine (combinations_any _).mono ?_; rintro e w' ⟨rfl, rfl⟩) | (go_at_call 127; refine (comb8 a b ha0 ha1 hb0 hb1 _).mono ?_; rintro e w' ⟨rfl, rfl⟩))
 all_goals go_ret2
 all_goals exact ⟨ret_two (arith_15 a b).symm rfl, (Below.refl _ _).alloc (Nat.le_refl _) _⟩
theorem apply_16 (a b : Int) (ha0 : 0 ≤ a) (ha1 : a < 4294967296) (hb0 : 0 ≤ b) (hb1 : b < 4294967296) (w : World) :
  Calls Tryz.prog 92 #[.int .i64 16, .int .u32 a, .int .u32 b] w fun e w' => e = .returned (.tuple #[.int .u32 (arith 16 a b), .int .i64 0]) ∧ Below w.heap.size w w' := by
 have hl := run_lookup_int (P := Tryz.prog) (T := 166) Tryz.underlying166 Tryz.underlying3 (w.alloc (.map combEntries 19)) w.heap.size combEntries 19 (heap_alloc_new w _) 16 comb_keys .nilFunc (zero_comb _)
 have hv : atInt 16 combEntries.toList = some (.func (.func 128) #[] #[]) := by rfl
 rw [hv] at hl
 simp only [Option.getD_some, Option.isSome_some] at hl
 rcases Bool.eq_false_or_eq_true (b == 0) with hz | hz
 all_goals go_enter Tryz.func92, Tryz.ntmps92
 all_goals go_wp2_with (first | (go_at_call 113; refine (combinations_any _).mono ?_; rintro e w' ⟨rfl, rfl⟩) | (go_at_call 128; refine (comb9 a b ha0 ha1 hb0 hb1 _).mono ?_; rintro e w' ⟨rfl, rfl⟩))
 all_goals go_ret2
 all_goals exact ⟨ret_two (arith_16 a b).symm rfl, (Below.refl _ _).alloc (Nat.le_refl _) _⟩
theorem apply_17 (a b : Int) (ha0 : 0 ≤ a) (ha1 : a < 4294967296) (hb0 : 0 ≤ b) (hb1 : b < 4294967296) (w : World) :
  Calls Tryz.prog 92 #[.int .i64 17, .int .u32 a, .int .u32 b] w fun e w' => e = .returned (.tuple #[.int .u32 (arith 17 a b), .int .i64 0]) ∧ Below w.heap.size w w' := by
 have hl := run_lookup_int (P := Tryz.prog) (T := 166) Tryz.underlying166 Tryz.underlying3 (w.alloc (.map combEntries 19)) w.heap.size combEntries 19 (heap_alloc_new w _) 17 comb_keys .nilFunc (zero_comb _)
 have hv : atInt 17 combEntries.toList = some (.func (.func 129) #[] #[]) := by rfl
 rw [hv] at hl
 simp only [Option.getD_some, Option.isSome_some] at hl
 rcases Bool.eq_false_or_eq_true (b == 0) with hz | hz
 all_goals go_enter Tryz.func92, Tryz.ntmps92
 all_goals go_wp2_with (first | (go_at_call 113; refine (combinations_any _).mono ?_; rintro e w' ⟨rfl, rfl⟩) | (go_at_call 129; refine (comb10 a b ha0 ha1 hb0 hb1 _).mono ?_; rintro e w' ⟨rfl, rfl⟩))
 all_goals go_ret2
 all_goals exact ⟨ret_two (arith_17 a b).symm rfl, (Below.refl _ _).alloc (Nat.le_refl _) _⟩
theorem apply_18 (a b : Int) (ha0 : 0 ≤ a) (ha1 : a < 4294967296) (hb0 : 0 ≤ b) (hb1 : b < 4294967296) (w : World) :
  Calls Tryz.prog 92 #[.int .i64 18, .int .u32 a, .int .u32 b] w fun e w' => e = .returned (.tuple #[.int .u32 (arith 18 a b), .int .i64 0]) ∧ Below w.heap.size w w' := by
 have hl := run_lookup_int (P := Tryz.prog) (T := 166) Tryz.underlying166 Tryz.underlying3 (w.alloc (.map combEntries 19)) w.heap.size combEntries 19 (heap_alloc_new w _) 18 comb_keys .nilFunc (zero_comb _)
 have hv : atInt 18 combEntries.toList = some (.func (.func 130) #[] #[]) := by rfl
 rw [hv] at hl
 simp only [Option.getD_some, Option.isSome_some] at hl
 rcases Bool.eq_false_or_eq_true (b == 0) with hz | hz
 all_goals go_enter Tryz.func92, Tryz.ntmps92
 all_goals go_wp2_with (first | (go_at_call 113; refine (combinations_any _).mono ?_; rintro e w' ⟨rfl, rfl⟩) | (go_at_call 130; refine (comb11 a b ha0 ha1 hb0 hb1 _).mono ?_; rintro e w' ⟨rfl, rfl⟩))
 all_goals go_ret2
 all_goals exact ⟨ret_two (arith_18 a b).symm rfl, (Below.refl _ _).alloc (Nat.le_refl _) _⟩
theorem apply_19 (a b : Int) (ha0 : 0 ≤ a) (ha1 : a < 4294967296) (hb0 : 0 ≤ b) (hb1 : b < 4294967296) (w : World) :
  Calls Tryz.prog 92 #[.int .i64 19, .int .u32 a, .int .u32 b] w fun e w' => e = .returned (.tuple #[.int .u32 (arith 19 a b), .int .i64 0]) ∧ Below w.heap.size w w' := by
 have hl := run_lookup_int (P := Tryz.prog) (T := 166) Tryz.underlying166 Tryz.underlying3 (w.alloc (.map combEntries 19)) w.heap.size combEntries 19 (heap_alloc_new w _) 19 comb_keys .nilFunc (zero_comb _)
 have hv : atInt 19 combEntries.toList = some (.func (.func 131) #[] #[]) := by rfl
 rw [hv] at hl
 simp only [Option.getD_some, Option.isSome_some] at hl
 rcases Bool.eq_false_or_eq_true (b == 0) with hz | hz
 all_goals go_enter Tryz.func92, Tryz.ntmps92
 all_goals go_wp2_with (first | (go_at_call 113; refine (combinations_any _).mono ?_; rintro e w' ⟨rfl, rfl⟩) | (go_at_call 131; refine (comb12 a b ha0 ha1 hb0 hb1 _).mono ?_; rintro e w' ⟨rfl, rfl⟩))
 all_goals go_ret2
 all_goals exact ⟨ret_two (arith_19 a b).symm rfl, (Below.refl _ _).alloc (Nat.le_refl _) _⟩
theorem apply_20 (a b : Int) (ha0 : 0 ≤ a) (ha1 : a < 4294967296) (hb0 : 0 ≤ b) (hb1 : b < 4294967296) (w : World) :
  Calls Tryz.prog 92 #[.int .i64 20, .int .u32 a, .int .u32 b] w fun e w' => e = .returned (.tuple #[.int .u32 (arith 20 a b), .int .i64 0]) ∧ Below w.heap.size w w' := by
 have hl := run_lookup_int (P := Tryz.prog) (T := 166) Tryz.underlying166 Tryz.underlying3 (w.alloc (.map combEntries 19)) w.heap.size combEntries 19 (heap_alloc_new w _) 20 comb_keys .nilFunc (zero_comb _)
 have hv : atInt 20 combEntries.toList = some (.func (.func 132) #[] #[]) := by rfl
 rw [hv] at hl
 simp only [Option.getD_some, Option.isSome_some] at hl
 rcases Bool.eq_false_or_eq_true (b == 0) with hz | hz
 all_goals go_enter Tryz.func92, Tryz.ntmps92
 all_goals go_wp2_with (first | (go_at_call 113; refine (combinations_any _).mono ?_; rintro e w' ⟨rfl, rfl⟩) | (go_at_call 132; refine (hash_any a b ha0 ha1 hb0 hb1 _).mono ?_; rintro e w' ⟨rfl, rfl⟩))
 all_goals go_ret2
 all_goals exact ⟨ret_two (arith_20 a b).symm rfl, (Below.refl _ _).alloc (Nat.le_refl _) _⟩
theorem apply_21 (a b : Int) (ha0 : 0 ≤ a) (ha1 : a < 4294967296) (hb0 : 0 ≤ b) (hb1 : b < 4294967296) (w : World) :
  Calls Tryz.prog 92 #[.int .i64 21, .int .u32 a, .int .u32 b] w fun e w' => e = .returned (.tuple #[.int .u32 (arith 21 a b), .int .i64 0]) ∧ Below w.heap.size w w' := by
 have hl := run_lookup_int (P := Tryz.prog) (T := 166) Tryz.underlying166 Tryz.underlying3 (w.alloc (.map combEntries 19)) w.heap.size combEntries 19 (heap_alloc_new w _) 21 comb_keys .nilFunc (zero_comb _)
 have hv : atInt 21 combEntries.toList = some (.func (.func 133) #[] #[]) := by rfl
 rw [hv] at hl
 simp only [Option.getD_some, Option.isSome_some] at hl
 rcases Bool.eq_false_or_eq_true (b == 0) with hz | hz
 all_goals go_enter Tryz.func92, Tryz.ntmps92
 all_goals go_wp2_with (first | (go_at_call 113; refine (combinations_any _).mono ?_; rintro e w' ⟨rfl, rfl⟩) | (go_at_call 133; refine (comb13 a b ha0 ha1 hb0 hb1 _).mono ?_; rintro e w' ⟨rfl, rfl⟩))
 all_goals go_ret2
 all_goals exact ⟨ret_two (arith_21 a b).symm rfl, (Below.refl _ _).alloc (Nat.le_refl _) _⟩
theorem apply_22 (a b : Int) (ha0 : 0 ≤ a) (ha1 : a < 4294967296) (hb0 : 0 ≤ b) (hb1 : b < 4294967296) (w : World) :
  Calls Tryz.prog 92 #[.int .i64 22, .int .u32 a, .int .u32 b] w fun e w' => e = .returned (.tuple #[.int .u32 (arith 22 a b), .int .i64 0]) ∧ Below w.heap.size w w' := by
 have hl := run_lookup_int (P := Tryz.prog) (T := 166) Tryz.underlying166 Tryz.underlying3 (w.alloc (.map combEntries 19)) w.heap.size combEntries 19 (heap_alloc_new w _) 22 comb_keys .nilFunc (zero_comb _)
 have hv : atInt 22 combEntries.toList = some (.func (.func 135) #[] #[]) := by rfl
 rw [hv] at hl
 simp only [Option.getD_some, Option.isSome_some] at hl
 rcases Bool.eq_false_or_eq_true (b == 0) with hz | hz
 all_goals go_enter Tryz.func92, Tryz.ntmps92
 all_goals go_wp2_with (first | (go_at_call 113; refine (combinations_any _).mono ?_; rintro e w' ⟨rfl, rfl⟩) | (go_at_call 135; refine (comb14 a b ha0 ha1 hb0 hb1 _).mono ?_; rintro e w' ⟨rfl, rfl⟩))
 all_goals go_ret2
 all_goals exact ⟨ret_two (arith_22 a b).symm rfl, (Below.refl _ _).alloc (Nat.le_refl _) _⟩
theorem apply_23 (a b : Int) (ha0 : 0 ≤ a) (ha1 : a < 4294967296) (hb0 : 0 ≤ b) (hb1 : b < 4294967296) (w : World) :
  Calls Tryz.prog 92 #[.int .i64 23, .int .u32 a, .int .u32 b] w fun e w' => e = .returned (.tuple #[.int .u32 (arith 23 a b), .int .i64 0]) ∧ Below w.heap.size w w' := by
 have hl := run_lookup_int (P := Tryz.prog) (T := 166) Tryz.underlying166 Tryz.underlying3 (w.alloc (.map combEntries 19)) w.heap.size combEntries 19 (heap_alloc_new w _) 23 comb_keys .nilFunc (zero_comb _)
 have hv : atInt 23 combEntries.toList = some (.func (.func 136) #[] #[]) := by rfl
 rw [hv] at hl
 simp only [Option.getD_some, Option.isSome_some] at hl
 rcases Bool.eq_false_or_eq_true (b == 0) with hz | hz
 all_goals go_enter Tryz.func92, Tryz.ntmps92
 all_goals go_wp2_with (first | (go_at_call 113; refine (combinations_any _).mono ?_; rintro e w' ⟨rfl, rfl⟩) | (go_at_call 136; refine (comb15 a b ha0 ha1 hb0 hb1 _).mono ?_; rintro e w' ⟨rfl, rfl⟩))
 all_goals go_ret2
 all_goals exact ⟨ret_two (arith_23 a b).symm rfl, (Below.refl _ _).alloc (Nat.le_refl _) _⟩
theorem apply_24 (a b : Int) (ha0 : 0 ≤ a) (ha1 : a < 4294967296) (hb0 : 0 ≤ b) (hb1 : b < 4294967296) (w : World) :
  Calls Tryz.prog 92 #[.int .i64 24, .int .u32 a, .int .u32 b] w fun e w' => e = .returned (.tuple #[.int .u32 (arith 24 a b), .int .i64 0]) ∧ Below w.heap.size w w' := by
 have hl := run_lookup_int (P := Tryz.prog) (T := 166) Tryz.underlying166 Tryz.underlying3 (w.alloc (.map combEntries 19)) w.heap.size combEntries 19 (heap_alloc_new w _) 24 comb_keys .nilFunc (zero_comb _)
 have hv : atInt 24 combEntries.toList = some (.func (.func 137) #[] #[]) := by rfl
 rw [hv] at hl
 simp only [Option.getD_some, Option.isSome_some] at hl
 rcases Bool.eq_false_or_eq_true (b == 0) with hz | hz
 all_goals go_enter Tryz.func92, Tryz.ntmps92
 all_goals go_wp2_with (first | (go_at_call 113; refine (combinations_any _).mono ?_; rintro e w' ⟨rfl, rfl⟩) | (go_at_call 137; refine (comb16 a b ha0 ha1 hb0 hb1 _).mono ?_; rintro e w' ⟨rfl, rfl⟩))
 all_goals go_ret2
 all_goals exact ⟨ret_two (arith_24 a b).symm rfl, (Below.refl _ _).alloc (Nat.le_refl _) _⟩
theorem apply_25 (a b : Int) (ha0 : 0 ≤ a) (ha1 : a < 4294967296) (hb0 : 0 ≤ b) (hb1 : b < 4294967296) (w : World) :
  Calls Tryz.prog 92 #[.int .i64 25, .int .u32 a, .int .u32 b] w fun e w' => e = .returned (.tuple #[.int .u32 (arith 25 a b), .int .i64 0]) ∧ Below w.heap.size w w' := by
 have hl := run_lookup_int (P := Tryz.prog) (T := 166) Tryz.underlying166 Tryz.underlying3 (w.alloc (.map combEntries 19)) w.heap.size combEntries 19 (heap_alloc_new w _) 25 comb_keys .nilFunc (zero_comb _)
 have hv : atInt 25 combEntries.toList = some (.func (.func 138) #[] #[]) := by rfl
 rw [hv] at hl
 simp only [Option.getD_some, Option.isSome_some] at hl
 rcases Bool.eq_false_or_eq_true (b == 0) with hz | hz
 all_goals go_enter Tryz.func92, Tryz.ntmps92
 all_goals go_wp2_with (first | (go_at_call 113; refine (combinations_any _).mono ?_; rintro e w' ⟨rfl, rfl⟩) | (go_at_call 138; refine (comb17 a b ha0 ha1 hb0 hb1 _).mono ?_; rintro e w' ⟨rfl, rfl⟩))
 all_goals go_ret2
 all_goals exact ⟨ret_two (arith_25 a b).symm rfl, (Below.refl _ _).alloc (Nat.le_refl _) _⟩
theorem apply_26 (a b : Int) (ha0 : 0 ≤ a) (ha1 : a < 4294967296) (hb0 : 0 ≤ b) (hb1 : b < 4294967296) (w : World) :
  Calls Tryz.prog 92 #[.int .i64 26, .int .u32 a, .int .u32 b] w fun e w' => e = .returned (.tuple #[.int .u32 (arith 26 a b), .int .i64 0]) ∧ Below w.heap.size w w' := by
 have hl := run_lookup_int (P := Tryz.prog) (T := 166) Tryz.underlying166 Tryz.underlying3 (w.alloc (.map combEntries 19)) w.heap.size combEntries 19 (heap_alloc_new w _) 26 comb_keys .nilFunc (zero_comb _)
 have hv : atInt 26 combEntries.toList = some (.func (.func 139) #[] #[]) := by rfl
 rw [hv] at hl
 simp only [Option.getD_some, Option.isSome_some] at hl
 rcases Bool.eq_false_or_eq_true (b == 0) with hz | hz
 all_goals go_enter Tryz.func92, Tryz.ntmps92
 all_goals go_wp2_with (first | (go_at_call 113; refine (combinations_any _).mono ?_; rintro e w' ⟨rfl, rfl⟩) | (go_at_call 139; refine (comb18 a b ha0 ha1 hb0 hb1 _).mono ?_; rintro e w' ⟨rfl, rfl⟩))
 all_goals go_ret2
 all_goals exact ⟨ret_two (arith_26 a b).symm rfl, (Below.refl _ _).alloc (Nat.le_refl _) _⟩
theorem apply_none (op a b : Int) (h : op < 8 ∨ 26 < op) (w : World) :
  Calls Tryz.prog 92 #[.int .i64 op, .int .u32 a, .int .u32 b] w fun e w' => e = .returned (.tuple #[.int .u32 0, .int .i64 1]) ∧ Below w.heap.size w w' := by
 have hl := run_lookup_int (P := Tryz.prog) (T := 166) Tryz.underlying166 Tryz.underlying3 (w.alloc (.map combEntries 19)) w.heap.size combEntries 19 (heap_alloc_new w _) op comb_keys .nilFunc (zero_comb _)
 have hv : atInt op combEntries.toList = none := by
  simp only [combEntries, atInt, keyInt]
  repeat rw [if_neg (by omega)]
 rw [hv] at hl
 simp only [Option.getD_none, Option.isSome_none] at hl
 clear hv
 have HH := Lib.hid h
 clear h
 go_enter Tryz.func92, Tryz.ntmps92
 go_wp2_with (go_at_call 113; refine (combinations_any _).mono ?_; rintro e w' ⟨rfl, rfl⟩)
 all_goals go_ret2
 all_goals exact ⟨rfl, (Below.refl _ _).alloc (Nat.le_refl _) _⟩
theorem apply_110 (a : Int) (w : World) :
  Calls Tryz.prog 92 #[.int .i64 11, .int .u32 a, .int .u32 0] w fun e w' => e = .returned (.tuple #[.int .u32 0, .int .i64 17]) ∧ Below w.heap.size w w' := by
 have hl := run_lookup_int (P := Tryz.prog) (T := 166) Tryz.underlying166 Tryz.underlying3 (w.alloc (.map combEntries 19)) w.heap.size combEntries 19 (heap_alloc_new w _) 11 comb_keys .nilFunc (zero_comb _)
 have hv : atInt 11 combEntries.toList = some (.func (.func 123) #[] #[]) := by rfl
 rw [hv] at hl
 simp only [Option.getD_some, Option.isSome_some] at hl
 go_enter Tryz.func92, Tryz.ntmps92
 go_wp2_with (go_at_call 113; refine (combinations_any _).mono ?_; rintro e w' ⟨rfl, rfl⟩)
 all_goals go_ret2
 all_goals exact ⟨rfl, (Below.refl _ _).alloc (Nat.le_refl _) _⟩
theorem apply_120 (a : Int) (w : World) :
  Calls Tryz.prog 92 #[.int .i64 12, .int .u32 a, .int .u32 0] w fun e w' => e = .returned (.tuple #[.int .u32 0, .int .i64 17]) ∧ Below w.heap.size w w' := by
 have hl := run_lookup_int (P := Tryz.prog) (T := 166) Tryz.underlying166 Tryz.underlying3 (w.alloc (.map combEntries 19)) w.heap.size combEntries 19 (heap_alloc_new w _) 12 comb_keys .nilFunc (zero_comb _)
 have hv : atInt 12 combEntries.toList = some (.func (.func 124) #[] #[]) := by rfl
 rw [hv] at hl
 simp only [Option.getD_some, Option.isSome_some] at hl
 go_enter Tryz.func92, Tryz.ntmps92
 go_wp2_with (go_at_call 113; refine (combinations_any _).mono ?_; rintro e w' ⟨rfl, rfl⟩)
 all_goals go_ret2
 all_goals exact ⟨rfl, (Below.refl _ _).alloc (Nat.le_refl _) _⟩
end Go.Proofs.YtidhfimbnjaceaaGreat

namespace Go.Proofs.YtidhfimbnjaceaaGreat
open Go.RowKit
set_option linter.unusedVariables false
theorem apply_ok (op a b : Int) (ha0 : 0 ≤ a) (ha1 : a < 4294967296) (hb0 : 0 ≤ b) (hb1 : b < 4294967296) (h : arithErr op b = 0) (w : World) :
  Calls Tryz.prog 92 #[.int .i64 op, .int .u32 a, .int .u32 b] w fun e w' => e = .returned (.tuple #[.int .u32 (arith op a b), .int .i64 0]) ∧ Below w.heap.size w w' := by
 unfold arithErr at h
 split at h
 ·cases h
 rename_i h1
 split at h
 ·cases h
 rename_i h2
 have hc : op = 8 ∨ op = 9 ∨ op = 10 ∨ op = 11 ∨ op = 12 ∨ op = 13 ∨ op = 14 ∨ op = 15 ∨ op = 16 ∨ op = 17 ∨ op = 18 ∨ op = 19 ∨ op = 20 ∨ op = 21 ∨ op = 22 ∨ op = 23 ∨ op = 24 ∨ op = 25 ∨ op = 26 := by omega
 rcases hc with rfl | rfl | rfl | rfl | rfl | rfl | rfl | rfl | rfl | rfl | rfl | rfl | rfl | rfl | rfl | rfl | rfl | rfl | rfl
 ·exact apply_8 a b ha0 ha1 hb0 hb1 w
 ·exact apply_9 a b ha0 ha1 hb0 hb1 w
 ·exact apply_10 a b ha0 ha1 hb0 hb1 w
 ·exact apply_11 a b ha0 ha1 hb0 hb1 (by omega) w
 ·exact apply_12 a b ha0 ha1 hb0 hb1 (by omega) w
 ·exact apply_13 a b ha0 ha1 hb0 hb1 w
 ·exact apply_14 a b ha0 ha1 hb0 hb1 w
 ·exact apply_15 a b ha0 ha1 hb0 hb1 w
 ·exact apply_16 a b ha0 ha1 hb0 hb1 w
 ·exact apply_17 a b ha0 ha1 hb0 hb1 w
 ·exact apply_18 a b ha0 ha1 hb0 hb1 w
 ·exact apply_19 a b ha0 ha1 hb0 hb1 w
 ·exact apply_20 a b ha0 ha1 hb0 hb1 w
 ·exact apply_21 a b ha0 ha1 hb0 hb1 w
 ·exact apply_22 a b ha0 ha1 hb0 hb1 w
 ·exact apply_23 a b ha0 ha1 hb0 hb1 w
 ·exact apply_24 a b ha0 ha1 hb0 hb1 w
 ·exact apply_25 a b ha0 ha1 hb0 hb1 w
 ·exact apply_26 a b ha0 ha1 hb0 hb1 w
theorem apply_err (op a b : Int) (ha0 : 0 ≤ a) (ha1 : a < 4294967296) (hb0 : 0 ≤ b) (hb1 : b < 4294967296) (h : arithErr op b ≠ 0) (w : World) :
  Calls Tryz.prog 92 #[.int .i64 op, .int .u32 a, .int .u32 b] w fun e w' => e = .returned (.tuple #[.int .u32 0, .int .i64 (arithErr op b)]) ∧ Below w.heap.size w w' := by
 unfold arithErr at h ⊢
 by_cases h1 : op < 8 ∨ 26 < op
 ·rw [if_pos h1]
  exact apply_none op a b h1 w
 ·rw [if_neg h1] at h ⊢
  by_cases h2 : b = 0 ∧ (op = 11 ∨ op = 12)
  ·rw [if_pos h2]
   obtain ⟨rfl, rfl | rfl⟩ := h2
   ·exact apply_110 a w
   ·exact apply_120 a w
  ·rw [if_neg h2] at h; exact absurd rfl h
end Go.Proofs.YtidhfimbnjaceaaGreat

namespace Go.Proofs.YtidhfimbnjaceaaGreat
open Go.RowKit
set_option linter.unusedVariables false
end Go.Proofs.YtidhfimbnjaceaaGreat
