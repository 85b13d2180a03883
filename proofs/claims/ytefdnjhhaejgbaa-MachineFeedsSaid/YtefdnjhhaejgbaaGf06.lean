/- A part of the proof of MachineFeeds: D Rb. No condition. -/
import Derived.Carry
import Derived.Lib.Hide
import Derived.Test.YtefdnjhhaejgbaaGf05
import Derived.Test.YtefdnjhhaejgbaaGf04
import Derived.Test.YtefdnjhhaejgbaaGf03
set_option linter.unusedSimpArgs false
set_option linter.unusedVariables false
namespace Go.Proofs.Ytefdnjhhaejgbaa
open Go.RowKit
set_option linter.unusedVariables false
def combEntries : Array MapEntry := #[{ key := .int .i64 8, val := .func (.func 57) #[] #[], born := 0 },
  { key := .int .i64 9, val := .func (.func 58) #[] #[], born := 1 },
  { key := .int .i64 10, val := .func (.func 59) #[] #[], born := 2 },
  { key := .int .i64 11, val := .func (.func 60) #[] #[], born := 3 },
  { key := .int .i64 12, val := .func (.func 61) #[] #[], born := 4 },
  { key := .int .i64 13, val := .func (.func 62) #[] #[], born := 5 },
  { key := .int .i64 14, val := .func (.func 63) #[] #[], born := 6 },
  { key := .int .i64 15, val := .func (.func 64) #[] #[], born := 7 },
  { key := .int .i64 16, val := .func (.func 65) #[] #[], born := 8 },
  { key := .int .i64 17, val := .func (.func 66) #[] #[], born := 9 },
  { key := .int .i64 18, val := .func (.func 67) #[] #[], born := 10 },
  { key := .int .i64 19, val := .func (.func 68) #[] #[], born := 11 },
  { key := .int .i64 20, val := .func (.func 69) #[] #[], born := 12 },
  { key := .int .i64 21, val := .func (.func 70) #[] #[], born := 13 },
  { key := .int .i64 22, val := .func (.func 72) #[] #[], born := 14 },
  { key := .int .i64 23, val := .func (.func 73) #[] #[], born := 15 },
  { key := .int .i64 24, val := .func (.func 74) #[] #[], born := 16 },
  { key := .int .i64 25, val := .func (.func 75) #[] #[], born := 17 },
  { key := .int .i64 26, val := .func (.func 76) #[] #[], born := 18 }]
def effEntries : Array MapEntry := #[{ key := .int .i64 0, val := .func (.func 93) #[] #[], born := 0 },
  { key := .int .i64 36, val := .func (.func 94) #[] #[], born := 1 },
  { key := .int .i64 37, val := .func (.func 95) #[] #[], born := 2 },
  { key := .int .i64 38, val := .func (.func 96) #[] #[], born := 3 },
  { key := .int .i64 32, val := .func (.func 97) #[] #[], born := 4 },
  { key := .int .i64 33, val := .func (.func 98) #[] #[], born := 5 },
  { key := .int .i64 34, val := .func (.func 99) #[] #[], born := 6 },
  { key := .int .i64 35, val := .func (.func 100) #[] #[], born := 7 },
  { key := .int .i64 3, val := .func (.func 101) #[] #[], born := 8 },
  { key := .int .i64 4, val := .func (.func 102) #[] #[], born := 9 },
  { key := .int .i64 27, val := .func (.func 103) #[] #[], born := 10 },
  { key := .int .i64 28, val := .func (.func 104) #[] #[], born := 11 },
  { key := .int .i64 29, val := .func (.func 105) #[] #[], born := 12 },
  { key := .int .i64 30, val := .func (.func 106) #[] #[], born := 13 },
  { key := .int .i64 31, val := .func (.func 107) #[] #[], born := 14 }]
set_option maxRecDepth 100000 in
set_option maxHeartbeats 1000000 in
theorem combinations_any (w : World) :
    Calls Try.prog 42 #[] w fun e w' => e = .returned (.map (some w.heap.size)) ∧ w' = w.alloc (.map combEntries 19) := by
  have hmm := fun (t : TypeId) (w : World) => run_makeMap (P := Try.prog) t w
  have hup := fun (w : World) es c k v h => run_insert_new (P := Try.prog) (T := 82) Try.underlying82 Try.underlying3 w es c k v h
  have hup0 := fun (w : World) k v => run_insert_new (P := Try.prog) (T := 82) Try.underlying82 Try.underlying3 w #[] 0 k v rfl
  go_enter Try.func42, Try.ntmps42
  go_wp2
  go_ret
  exact ⟨rfl, rfl⟩
set_option maxRecDepth 100000 in
set_option maxHeartbeats 1000000 in
theorem effects_any (w : World) :
    Calls Try.prog 86 #[] w fun e w' => e = .returned (.map (some w.heap.size)) ∧ w' = w.alloc (.map effEntries 15) := by
  have hmm := fun (t : TypeId) (w : World) => run_makeMap (P := Try.prog) t w
  have hup := fun (w : World) es c k v h => run_insert_new (P := Try.prog) (T := 123) Try.underlying123 Try.underlying3 w es c k v h
  have hup0 := fun (w : World) k v => run_insert_new (P := Try.prog) (T := 123) Try.underlying123 Try.underlying3 w #[] 0 k v rfl
  go_enter Try.func86, Try.ntmps86
  go_wp2
  go_ret
  exact ⟨rfl, rfl⟩
theorem zero_comb (w : World) : (zeroValue 80).run Try.prog w = .ok .nilFunc w := by kernel_rfl
theorem zero_eff (w : World) : (zeroValue 125).run Try.prog w = .ok .nilFunc w := by kernel_rfl
theorem comb_keys : intKeys combEntries.toList = true := by decide
theorem eff_keys : intKeys effEntries.toList = true := by decide
theorem ret_two {k l : IntKind} {a b c d : Int} (h : a = b) (h2 : c = d) : Ending.returned (.tuple #[.int k a, .int l c]) = .returned (.tuple #[.int k b, .int l d]) := by rw [h, h2]
theorem arith_8 (a b : Int) : arith 8 a b = (a + b) % 4294967296 := by simp [arith]
theorem arith_9 (a b : Int) : arith 9 a b = (a - b) % 4294967296 := by simp [arith]
theorem arith_10 (a b : Int) : arith 10 a b = (a * b) % 4294967296 := by simp [arith]
theorem arith_11 (a b : Int) : arith 11 a b = a / b := by simp [arith]
theorem arith_12 (a b : Int) : arith 12 a b = a % b := by simp [arith]
theorem arith_13 (a b : Int) : arith 13 a b = bits .and .u32 a b := by simp [arith]
theorem arith_14 (a b : Int) : arith 14 a b = bits .or .u32 a b := by simp [arith]
theorem arith_15 (a b : Int) : arith 15 a b = bits .xor .u32 a b := by simp [arith]
theorem arith_16 (a b : Int) : arith 16 a b = a * 2 ^ (b % 32).toNat % 4294967296 := by simp [arith]
theorem arith_17 (a b : Int) : arith 17 a b = a / 2 ^ (b % 32).toNat := by simp [arith]
theorem arith_18 (a b : Int) : arith 18 a b = min a b := by simp [arith]
theorem arith_19 (a b : Int) : arith 19 a b = max a b := by simp [arith]
theorem arith_20 (a b : Int) : arith 20 a b = hash32 a b := by simp [arith]
theorem arith_21 (a b : Int) : arith 21 a b = flagI (a == b) := by simp [arith]
theorem arith_22 (a b : Int) : arith 22 a b = flagI (decide (a < b)) := by simp [arith]
theorem arith_23 (a b : Int) : arith 23 a b = flagI (a == 0) := by simp [arith]
theorem arith_24 (a b : Int) : arith 24 a b = flagI (a != 0 && b != 0) := by simp [arith]
theorem arith_25 (a b : Int) : arith 25 a b = flagI (a != 0 || b != 0) := by simp [arith]
theorem arith_26 (a b : Int) : arith 26 a b = flagI (a != 0) := by simp [arith]
set_option maxRecDepth 100000 in
set_option maxHeartbeats 1000000 in
theorem apply_8 (a b : Int) (ha0 : 0 ≤ a) (ha1 : a < 4294967296) (hb0 : 0 ≤ b) (hb1 : b < 4294967296) (w : World) :
    Calls Try.prog 23 #[.int .i64 8, .int .u32 a, .int .u32 b] w fun e w' => e = .returned (.tuple #[.int .u32 (arith 8 a b), .int .i64 0]) ∧ Below w.heap.size w w' := by
  have hl := run_lookup_int (P := Try.prog) (T := 82) Try.underlying82 Try.underlying3 (w.alloc (.map combEntries 19)) w.heap.size combEntries 19 (heap_alloc_new w _) 8 comb_keys .nilFunc (zero_comb _)
  have hv : atInt 8 combEntries.toList = some (.func (.func 57) #[] #[]) := by rfl
  rw [hv] at hl
  simp only [Option.getD_some, Option.isSome_some] at hl
  rcases Bool.eq_false_or_eq_true (b == 0) with hz | hz
  all_goals go_enter Try.func23, Try.ntmps23
  all_goals go_wp2_with (first | (go_at_call 42; refine (combinations_any _).mono ?_; rintro e w' ⟨rfl, rfl⟩) | (go_at_call 57; refine (comb1 a b ha0 ha1 hb0 hb1 _).mono ?_; rintro e w' ⟨rfl, rfl⟩))
  all_goals go_ret2
  all_goals exact ⟨ret_two (arith_8 a b).symm rfl, (Below.refl _ _).alloc (Nat.le_refl _) _⟩
set_option maxRecDepth 100000 in
set_option maxHeartbeats 1000000 in
theorem apply_9 (a b : Int) (ha0 : 0 ≤ a) (ha1 : a < 4294967296) (hb0 : 0 ≤ b) (hb1 : b < 4294967296) (w : World) :
    Calls Try.prog 23 #[.int .i64 9, .int .u32 a, .int .u32 b] w fun e w' => e = .returned (.tuple #[.int .u32 (arith 9 a b), .int .i64 0]) ∧ Below w.heap.size w w' := by
  have hl := run_lookup_int (P := Try.prog) (T := 82) Try.underlying82 Try.underlying3 (w.alloc (.map combEntries 19)) w.heap.size combEntries 19 (heap_alloc_new w _) 9 comb_keys .nilFunc (zero_comb _)
  have hv : atInt 9 combEntries.toList = some (.func (.func 58) #[] #[]) := by rfl
  rw [hv] at hl
  simp only [Option.getD_some, Option.isSome_some] at hl
  rcases Bool.eq_false_or_eq_true (b == 0) with hz | hz
  all_goals go_enter Try.func23, Try.ntmps23
  all_goals go_wp2_with (first | (go_at_call 42; refine (combinations_any _).mono ?_; rintro e w' ⟨rfl, rfl⟩) | (go_at_call 58; refine (comb2 a b ha0 ha1 hb0 hb1 _).mono ?_; rintro e w' ⟨rfl, rfl⟩))
  all_goals go_ret2
  all_goals exact ⟨ret_two (arith_9 a b).symm rfl, (Below.refl _ _).alloc (Nat.le_refl _) _⟩
set_option maxRecDepth 100000 in
set_option maxHeartbeats 1000000 in
theorem apply_10 (a b : Int) (ha0 : 0 ≤ a) (ha1 : a < 4294967296) (hb0 : 0 ≤ b) (hb1 : b < 4294967296) (w : World) :
    Calls Try.prog 23 #[.int .i64 10, .int .u32 a, .int .u32 b] w fun e w' => e = .returned (.tuple #[.int .u32 (arith 10 a b), .int .i64 0]) ∧ Below w.heap.size w w' := by
  have hl := run_lookup_int (P := Try.prog) (T := 82) Try.underlying82 Try.underlying3 (w.alloc (.map combEntries 19)) w.heap.size combEntries 19 (heap_alloc_new w _) 10 comb_keys .nilFunc (zero_comb _)
  have hv : atInt 10 combEntries.toList = some (.func (.func 59) #[] #[]) := by rfl
  rw [hv] at hl
  simp only [Option.getD_some, Option.isSome_some] at hl
  rcases Bool.eq_false_or_eq_true (b == 0) with hz | hz
  all_goals go_enter Try.func23, Try.ntmps23
  all_goals go_wp2_with (first | (go_at_call 42; refine (combinations_any _).mono ?_; rintro e w' ⟨rfl, rfl⟩) | (go_at_call 59; refine (comb3 a b ha0 ha1 hb0 hb1 _).mono ?_; rintro e w' ⟨rfl, rfl⟩))
  all_goals go_ret2
  all_goals exact ⟨ret_two (arith_10 a b).symm rfl, (Below.refl _ _).alloc (Nat.le_refl _) _⟩
set_option maxRecDepth 100000 in
set_option maxHeartbeats 1000000 in
theorem apply_11 (a b : Int) (ha0 : 0 ≤ a) (ha1 : a < 4294967296) (hb0 : 0 ≤ b) (hb1 : b < 4294967296) (hb : ¬ b = 0) (w : World) :
    Calls Try.prog 23 #[.int .i64 11, .int .u32 a, .int .u32 b] w fun e w' => e = .returned (.tuple #[.int .u32 (arith 11 a b), .int .i64 0]) ∧ Below w.heap.size w w' := by
  have hl := run_lookup_int (P := Try.prog) (T := 82) Try.underlying82 Try.underlying3 (w.alloc (.map combEntries 19)) w.heap.size combEntries 19 (heap_alloc_new w _) 11 comb_keys .nilFunc (zero_comb _)
  have hv : atInt 11 combEntries.toList = some (.func (.func 60) #[] #[]) := by rfl
  rw [hv] at hl
  simp only [Option.getD_some, Option.isSome_some] at hl
  have hb' : (b == 0) = false := by simpa using hb
  go_enter Try.func23, Try.ntmps23
  go_wp2_with (first | (go_at_call 42; refine (combinations_any _).mono ?_; rintro e w' ⟨rfl, rfl⟩) | (go_at_call 60; refine (comb4 a b ha0 ha1 hb0 hb1 hb _).mono ?_; rintro e w' ⟨rfl, rfl⟩))
  all_goals go_ret2
  all_goals exact ⟨ret_two (arith_11 a b).symm rfl, (Below.refl _ _).alloc (Nat.le_refl _) _⟩
set_option maxRecDepth 100000 in
set_option maxHeartbeats 1000000 in
theorem apply_12 (a b : Int) (ha0 : 0 ≤ a) (ha1 : a < 4294967296) (hb0 : 0 ≤ b) (hb1 : b < 4294967296) (hb : ¬ b = 0) (w : World) :
    Calls Try.prog 23 #[.int .i64 12, .int .u32 a, .int .u32 b] w fun e w' => e = .returned (.tuple #[.int .u32 (arith 12 a b), .int .i64 0]) ∧ Below w.heap.size w w' := by
  have hl := run_lookup_int (P := Try.prog) (T := 82) Try.underlying82 Try.underlying3 (w.alloc (.map combEntries 19)) w.heap.size combEntries 19 (heap_alloc_new w _) 12 comb_keys .nilFunc (zero_comb _)
  have hv : atInt 12 combEntries.toList = some (.func (.func 61) #[] #[]) := by rfl
  rw [hv] at hl
  simp only [Option.getD_some, Option.isSome_some] at hl
  have hb' : (b == 0) = false := by simpa using hb
  go_enter Try.func23, Try.ntmps23
  go_wp2_with (first | (go_at_call 42; refine (combinations_any _).mono ?_; rintro e w' ⟨rfl, rfl⟩) | (go_at_call 61; refine (comb5 a b ha0 ha1 hb0 hb1 hb _).mono ?_; rintro e w' ⟨rfl, rfl⟩))
  all_goals go_ret2
  all_goals exact ⟨ret_two (arith_12 a b).symm rfl, (Below.refl _ _).alloc (Nat.le_refl _) _⟩
set_option maxRecDepth 100000 in
set_option maxHeartbeats 1000000 in
theorem apply_13 (a b : Int) (ha0 : 0 ≤ a) (ha1 : a < 4294967296) (hb0 : 0 ≤ b) (hb1 : b < 4294967296) (w : World) :
    Calls Try.prog 23 #[.int .i64 13, .int .u32 a, .int .u32 b] w fun e w' => e = .returned (.tuple #[.int .u32 (arith 13 a b), .int .i64 0]) ∧ Below w.heap.size w w' := by
  have hl := run_lookup_int (P := Try.prog) (T := 82) Try.underlying82 Try.underlying3 (w.alloc (.map combEntries 19)) w.heap.size combEntries 19 (heap_alloc_new w _) 13 comb_keys .nilFunc (zero_comb _)
  have hv : atInt 13 combEntries.toList = some (.func (.func 62) #[] #[]) := by rfl
  rw [hv] at hl
  simp only [Option.getD_some, Option.isSome_some] at hl
  rcases Bool.eq_false_or_eq_true (b == 0) with hz | hz
  all_goals go_enter Try.func23, Try.ntmps23
  all_goals go_wp2_with (first | (go_at_call 42; refine (combinations_any _).mono ?_; rintro e w' ⟨rfl, rfl⟩) | (go_at_call 62; refine (comb6 a b ha0 ha1 hb0 hb1 _).mono ?_; rintro e w' ⟨rfl, rfl⟩))
  all_goals go_ret2
  all_goals exact ⟨ret_two (arith_13 a b).symm rfl, (Below.refl _ _).alloc (Nat.le_refl _) _⟩
set_option maxRecDepth 100000 in
set_option maxHeartbeats 1000000 in
theorem apply_14 (a b : Int) (ha0 : 0 ≤ a) (ha1 : a < 4294967296) (hb0 : 0 ≤ b) (hb1 : b < 4294967296) (w : World) :
    Calls Try.prog 23 #[.int .i64 14, .int .u32 a, .int .u32 b] w fun e w' => e = .returned (.tuple #[.int .u32 (arith 14 a b), .int .i64 0]) ∧ Below w.heap.size w w' := by
  have hl := run_lookup_int (P := Try.prog) (T := 82) Try.underlying82 Try.underlying3 (w.alloc (.map combEntries 19)) w.heap.size combEntries 19 (heap_alloc_new w _) 14 comb_keys .nilFunc (zero_comb _)
  have hv : atInt 14 combEntries.toList = some (.func (.func 63) #[] #[]) := by rfl
  rw [hv] at hl
  simp only [Option.getD_some, Option.isSome_some] at hl
  rcases Bool.eq_false_or_eq_true (b == 0) with hz | hz
  all_goals go_enter Try.func23, Try.ntmps23
  all_goals go_wp2_with (first | (go_at_call 42; refine (combinations_any _).mono ?_; rintro e w' ⟨rfl, rfl⟩) | (go_at_call 63; refine (comb7 a b ha0 ha1 hb0 hb1 _).mono ?_; rintro e w' ⟨rfl, rfl⟩))
  all_goals go_ret2
  all_goals exact ⟨ret_two (arith_14 a b).symm rfl, (Below.refl _ _).alloc (Nat.le_refl _) _⟩
set_option maxRecDepth 100000 in
set_option maxHeartbeats 1000000 in
theorem apply_15 (a b : Int) (ha0 : 0 ≤ a) (ha1 : a < 4294967296) (hb0 : 0 ≤ b) (hb1 : b < 4294967296) (w : World) :
    Calls Try.prog 23 #[.int .i64 15, .int .u32 a, .int .u32 b] w fun e w' => e = .returned (.tuple #[.int .u32 (arith 15 a b), .int .i64 0]) ∧ Below w.heap.size w w' := by
  have hl := run_lookup_int (P := Try.prog) (T := 82) Try.underlying82 Try.underlying3 (w.alloc (.map combEntries 19)) w.heap.size combEntries 19 (heap_alloc_new w _) 15 comb_keys .nilFunc (zero_comb _)
  have hv : atInt 15 combEntries.toList = some (.func (.func 64) #[] #[]) := by rfl
  rw [hv] at hl
  simp only [Option.getD_some, Option.isSome_some] at hl
  rcases Bool.eq_false_or_eq_true (b == 0) with hz | hz
  all_goals go_enter Try.func23, Try.ntmps23
  all_goals go_wp2_with (first | (go_at_call 42; refine (combinations_any _).mono ?_; rintro e w' ⟨rfl, rfl⟩) | (go_at_call 64; refine (comb8 a b ha0 ha1 hb0 hb1 _).mono ?_; rintro e w' ⟨rfl, rfl⟩))
  all_goals go_ret2
  all_goals exact ⟨ret_two (arith_15 a b).symm rfl, (Below.refl _ _).alloc (Nat.le_refl _) _⟩
set_option maxRecDepth 100000 in
set_option maxHeartbeats 1000000 in
theorem apply_16 (a b : Int) (ha0 : 0 ≤ a) (ha1 : a < 4294967296) (hb0 : 0 ≤ b) (hb1 : b < 4294967296) (w : World) :
    Calls Try.prog 23 #[.int .i64 16, .int .u32 a, .int .u32 b] w fun e w' => e = .returned (.tuple #[.int .u32 (arith 16 a b), .int .i64 0]) ∧ Below w.heap.size w w' := by
  have hl := run_lookup_int (P := Try.prog) (T := 82) Try.underlying82 Try.underlying3 (w.alloc (.map combEntries 19)) w.heap.size combEntries 19 (heap_alloc_new w _) 16 comb_keys .nilFunc (zero_comb _)
  have hv : atInt 16 combEntries.toList = some (.func (.func 65) #[] #[]) := by rfl
  rw [hv] at hl
  simp only [Option.getD_some, Option.isSome_some] at hl
  rcases Bool.eq_false_or_eq_true (b == 0) with hz | hz
  all_goals go_enter Try.func23, Try.ntmps23
  all_goals go_wp2_with (first | (go_at_call 42; refine (combinations_any _).mono ?_; rintro e w' ⟨rfl, rfl⟩) | (go_at_call 65; refine (comb9 a b ha0 ha1 hb0 hb1 _).mono ?_; rintro e w' ⟨rfl, rfl⟩))
  all_goals go_ret2
  all_goals exact ⟨ret_two (arith_16 a b).symm rfl, (Below.refl _ _).alloc (Nat.le_refl _) _⟩
set_option maxRecDepth 100000 in
set_option maxHeartbeats 1000000 in
theorem apply_17 (a b : Int) (ha0 : 0 ≤ a) (ha1 : a < 4294967296) (hb0 : 0 ≤ b) (hb1 : b < 4294967296) (w : World) :
    Calls Try.prog 23 #[.int .i64 17, .int .u32 a, .int .u32 b] w fun e w' => e = .returned (.tuple #[.int .u32 (arith 17 a b), .int .i64 0]) ∧ Below w.heap.size w w' := by
  have hl := run_lookup_int (P := Try.prog) (T := 82) Try.underlying82 Try.underlying3 (w.alloc (.map combEntries 19)) w.heap.size combEntries 19 (heap_alloc_new w _) 17 comb_keys .nilFunc (zero_comb _)
  have hv : atInt 17 combEntries.toList = some (.func (.func 66) #[] #[]) := by rfl
  rw [hv] at hl
  simp only [Option.getD_some, Option.isSome_some] at hl
  rcases Bool.eq_false_or_eq_true (b == 0) with hz | hz
  all_goals go_enter Try.func23, Try.ntmps23
  all_goals go_wp2_with (first | (go_at_call 42; refine (combinations_any _).mono ?_; rintro e w' ⟨rfl, rfl⟩) | (go_at_call 66; refine (comb10 a b ha0 ha1 hb0 hb1 _).mono ?_; rintro e w' ⟨rfl, rfl⟩))
  all_goals go_ret2
  all_goals exact ⟨ret_two (arith_17 a b).symm rfl, (Below.refl _ _).alloc (Nat.le_refl _) _⟩
set_option maxRecDepth 100000 in
set_option maxHeartbeats 1000000 in
theorem apply_18 (a b : Int) (ha0 : 0 ≤ a) (ha1 : a < 4294967296) (hb0 : 0 ≤ b) (hb1 : b < 4294967296) (w : World) :
    Calls Try.prog 23 #[.int .i64 18, .int .u32 a, .int .u32 b] w fun e w' => e = .returned (.tuple #[.int .u32 (arith 18 a b), .int .i64 0]) ∧ Below w.heap.size w w' := by
  have hl := run_lookup_int (P := Try.prog) (T := 82) Try.underlying82 Try.underlying3 (w.alloc (.map combEntries 19)) w.heap.size combEntries 19 (heap_alloc_new w _) 18 comb_keys .nilFunc (zero_comb _)
  have hv : atInt 18 combEntries.toList = some (.func (.func 67) #[] #[]) := by rfl
  rw [hv] at hl
  simp only [Option.getD_some, Option.isSome_some] at hl
  rcases Bool.eq_false_or_eq_true (b == 0) with hz | hz
  all_goals go_enter Try.func23, Try.ntmps23
  all_goals go_wp2_with (first | (go_at_call 42; refine (combinations_any _).mono ?_; rintro e w' ⟨rfl, rfl⟩) | (go_at_call 67; refine (comb11 a b ha0 ha1 hb0 hb1 _).mono ?_; rintro e w' ⟨rfl, rfl⟩))
  all_goals go_ret2
  all_goals exact ⟨ret_two (arith_18 a b).symm rfl, (Below.refl _ _).alloc (Nat.le_refl _) _⟩
set_option maxRecDepth 100000 in
set_option maxHeartbeats 1000000 in
theorem apply_19 (a b : Int) (ha0 : 0 ≤ a) (ha1 : a < 4294967296) (hb0 : 0 ≤ b) (hb1 : b < 4294967296) (w : World) :
    Calls Try.prog 23 #[.int .i64 19, .int .u32 a, .int .u32 b] w fun e w' => e = .returned (.tuple #[.int .u32 (arith 19 a b), .int .i64 0]) ∧ Below w.heap.size w w' := by
  have hl := run_lookup_int (P := Try.prog) (T := 82) Try.underlying82 Try.underlying3 (w.alloc (.map combEntries 19)) w.heap.size combEntries 19 (heap_alloc_new w _) 19 comb_keys .nilFunc (zero_comb _)
  have hv : atInt 19 combEntries.toList = some (.func (.func 68) #[] #[]) := by rfl
  rw [hv] at hl
  simp only [Option.getD_some, Option.isSome_some] at hl
  rcases Bool.eq_false_or_eq_true (b == 0) with hz | hz
  all_goals go_enter Try.func23, Try.ntmps23
  all_goals go_wp2_with (first | (go_at_call 42; refine (combinations_any _).mono ?_; rintro e w' ⟨rfl, rfl⟩) | (go_at_call 68; refine (comb12 a b ha0 ha1 hb0 hb1 _).mono ?_; rintro e w' ⟨rfl, rfl⟩))
  all_goals go_ret2
  all_goals exact ⟨ret_two (arith_19 a b).symm rfl, (Below.refl _ _).alloc (Nat.le_refl _) _⟩
set_option maxRecDepth 100000 in
set_option maxHeartbeats 1000000 in
theorem apply_20 (a b : Int) (ha0 : 0 ≤ a) (ha1 : a < 4294967296) (hb0 : 0 ≤ b) (hb1 : b < 4294967296) (w : World) :
    Calls Try.prog 23 #[.int .i64 20, .int .u32 a, .int .u32 b] w fun e w' => e = .returned (.tuple #[.int .u32 (arith 20 a b), .int .i64 0]) ∧ Below w.heap.size w w' := by
  have hl := run_lookup_int (P := Try.prog) (T := 82) Try.underlying82 Try.underlying3 (w.alloc (.map combEntries 19)) w.heap.size combEntries 19 (heap_alloc_new w _) 20 comb_keys .nilFunc (zero_comb _)
  have hv : atInt 20 combEntries.toList = some (.func (.func 69) #[] #[]) := by rfl
  rw [hv] at hl
  simp only [Option.getD_some, Option.isSome_some] at hl
  rcases Bool.eq_false_or_eq_true (b == 0) with hz | hz
  all_goals go_enter Try.func23, Try.ntmps23
  all_goals go_wp2_with (first | (go_at_call 42; refine (combinations_any _).mono ?_; rintro e w' ⟨rfl, rfl⟩) | (go_at_call 69; refine (hash_any a b ha0 ha1 hb0 hb1 _).mono ?_; rintro e w' ⟨rfl, rfl⟩))
  all_goals go_ret2
  all_goals exact ⟨ret_two (arith_20 a b).symm rfl, (Below.refl _ _).alloc (Nat.le_refl _) _⟩
set_option maxRecDepth 100000 in
set_option maxHeartbeats 1000000 in
theorem apply_21 (a b : Int) (ha0 : 0 ≤ a) (ha1 : a < 4294967296) (hb0 : 0 ≤ b) (hb1 : b < 4294967296) (w : World) :
    Calls Try.prog 23 #[.int .i64 21, .int .u32 a, .int .u32 b] w fun e w' => e = .returned (.tuple #[.int .u32 (arith 21 a b), .int .i64 0]) ∧ Below w.heap.size w w' := by
  have hl := run_lookup_int (P := Try.prog) (T := 82) Try.underlying82 Try.underlying3 (w.alloc (.map combEntries 19)) w.heap.size combEntries 19 (heap_alloc_new w _) 21 comb_keys .nilFunc (zero_comb _)
  have hv : atInt 21 combEntries.toList = some (.func (.func 70) #[] #[]) := by rfl
  rw [hv] at hl
  simp only [Option.getD_some, Option.isSome_some] at hl
  rcases Bool.eq_false_or_eq_true (b == 0) with hz | hz
  all_goals go_enter Try.func23, Try.ntmps23
  all_goals go_wp2_with (first | (go_at_call 42; refine (combinations_any _).mono ?_; rintro e w' ⟨rfl, rfl⟩) | (go_at_call 70; refine (comb13 a b ha0 ha1 hb0 hb1 _).mono ?_; rintro e w' ⟨rfl, rfl⟩))
  all_goals go_ret2
  all_goals exact ⟨ret_two (arith_21 a b).symm rfl, (Below.refl _ _).alloc (Nat.le_refl _) _⟩
set_option maxRecDepth 100000 in
set_option maxHeartbeats 1000000 in
theorem apply_22 (a b : Int) (ha0 : 0 ≤ a) (ha1 : a < 4294967296) (hb0 : 0 ≤ b) (hb1 : b < 4294967296) (w : World) :
    Calls Try.prog 23 #[.int .i64 22, .int .u32 a, .int .u32 b] w fun e w' => e = .returned (.tuple #[.int .u32 (arith 22 a b), .int .i64 0]) ∧ Below w.heap.size w w' := by
  have hl := run_lookup_int (P := Try.prog) (T := 82) Try.underlying82 Try.underlying3 (w.alloc (.map combEntries 19)) w.heap.size combEntries 19 (heap_alloc_new w _) 22 comb_keys .nilFunc (zero_comb _)
  have hv : atInt 22 combEntries.toList = some (.func (.func 72) #[] #[]) := by rfl
  rw [hv] at hl
  simp only [Option.getD_some, Option.isSome_some] at hl
  rcases Bool.eq_false_or_eq_true (b == 0) with hz | hz
  all_goals go_enter Try.func23, Try.ntmps23
  all_goals go_wp2_with (first | (go_at_call 42; refine (combinations_any _).mono ?_; rintro e w' ⟨rfl, rfl⟩) | (go_at_call 72; refine (comb14 a b ha0 ha1 hb0 hb1 _).mono ?_; rintro e w' ⟨rfl, rfl⟩))
  all_goals go_ret2
  all_goals exact ⟨ret_two (arith_22 a b).symm rfl, (Below.refl _ _).alloc (Nat.le_refl _) _⟩
set_option maxRecDepth 100000 in
set_option maxHeartbeats 1000000 in
theorem apply_23 (a b : Int) (ha0 : 0 ≤ a) (ha1 : a < 4294967296) (hb0 : 0 ≤ b) (hb1 : b < 4294967296) (w : World) :
    Calls Try.prog 23 #[.int .i64 23, .int .u32 a, .int .u32 b] w fun e w' => e = .returned (.tuple #[.int .u32 (arith 23 a b), .int .i64 0]) ∧ Below w.heap.size w w' := by
  have hl := run_lookup_int (P := Try.prog) (T := 82) Try.underlying82 Try.underlying3 (w.alloc (.map combEntries 19)) w.heap.size combEntries 19 (heap_alloc_new w _) 23 comb_keys .nilFunc (zero_comb _)
  have hv : atInt 23 combEntries.toList = some (.func (.func 73) #[] #[]) := by rfl
  rw [hv] at hl
  simp only [Option.getD_some, Option.isSome_some] at hl
  rcases Bool.eq_false_or_eq_true (b == 0) with hz | hz
  all_goals go_enter Try.func23, Try.ntmps23
  all_goals go_wp2_with (first | (go_at_call 42; refine (combinations_any _).mono ?_; rintro e w' ⟨rfl, rfl⟩) | (go_at_call 73; refine (comb15 a b ha0 ha1 hb0 hb1 _).mono ?_; rintro e w' ⟨rfl, rfl⟩))
  all_goals go_ret2
  all_goals exact ⟨ret_two (arith_23 a b).symm rfl, (Below.refl _ _).alloc (Nat.le_refl _) _⟩
set_option maxRecDepth 100000 in
set_option maxHeartbeats 1000000 in
theorem apply_24 (a b : Int) (ha0 : 0 ≤ a) (ha1 : a < 4294967296) (hb0 : 0 ≤ b) (hb1 : b < 4294967296) (w : World) :
    Calls Try.prog 23 #[.int .i64 24, .int .u32 a, .int .u32 b] w fun e w' => e = .returned (.tuple #[.int .u32 (arith 24 a b), .int .i64 0]) ∧ Below w.heap.size w w' := by
  have hl := run_lookup_int (P := Try.prog) (T := 82) Try.underlying82 Try.underlying3 (w.alloc (.map combEntries 19)) w.heap.size combEntries 19 (heap_alloc_new w _) 24 comb_keys .nilFunc (zero_comb _)
  have hv : atInt 24 combEntries.toList = some (.func (.func 74) #[] #[]) := by rfl
  rw [hv] at hl
  simp only [Option.getD_some, Option.isSome_some] at hl
  rcases Bool.eq_false_or_eq_true (b == 0) with hz | hz
  all_goals go_enter Try.func23, Try.ntmps23
  all_goals go_wp2_with (first | (go_at_call 42; refine (combinations_any _).mono ?_; rintro e w' ⟨rfl, rfl⟩) | (go_at_call 74; refine (comb16 a b ha0 ha1 hb0 hb1 _).mono ?_; rintro e w' ⟨rfl, rfl⟩))
  all_goals go_ret2
  all_goals exact ⟨ret_two (arith_24 a b).symm rfl, (Below.refl _ _).alloc (Nat.le_refl _) _⟩
set_option maxRecDepth 100000 in
set_option maxHeartbeats 1000000 in
theorem apply_25 (a b : Int) (ha0 : 0 ≤ a) (ha1 : a < 4294967296) (hb0 : 0 ≤ b) (hb1 : b < 4294967296) (w : World) :
    Calls Try.prog 23 #[.int .i64 25, .int .u32 a, .int .u32 b] w fun e w' => e = .returned (.tuple #[.int .u32 (arith 25 a b), .int .i64 0]) ∧ Below w.heap.size w w' := by
  have hl := run_lookup_int (P := Try.prog) (T := 82) Try.underlying82 Try.underlying3 (w.alloc (.map combEntries 19)) w.heap.size combEntries 19 (heap_alloc_new w _) 25 comb_keys .nilFunc (zero_comb _)
  have hv : atInt 25 combEntries.toList = some (.func (.func 75) #[] #[]) := by rfl
  rw [hv] at hl
  simp only [Option.getD_some, Option.isSome_some] at hl
  rcases Bool.eq_false_or_eq_true (b == 0) with hz | hz
  all_goals go_enter Try.func23, Try.ntmps23
  all_goals go_wp2_with (first | (go_at_call 42; refine (combinations_any _).mono ?_; rintro e w' ⟨rfl, rfl⟩) | (go_at_call 75; refine (comb17 a b ha0 ha1 hb0 hb1 _).mono ?_; rintro e w' ⟨rfl, rfl⟩))
  all_goals go_ret2
  all_goals exact ⟨ret_two (arith_25 a b).symm rfl, (Below.refl _ _).alloc (Nat.le_refl _) _⟩
set_option maxRecDepth 100000 in
set_option maxHeartbeats 1000000 in
theorem apply_26 (a b : Int) (ha0 : 0 ≤ a) (ha1 : a < 4294967296) (hb0 : 0 ≤ b) (hb1 : b < 4294967296) (w : World) :
    Calls Try.prog 23 #[.int .i64 26, .int .u32 a, .int .u32 b] w fun e w' => e = .returned (.tuple #[.int .u32 (arith 26 a b), .int .i64 0]) ∧ Below w.heap.size w w' := by
  have hl := run_lookup_int (P := Try.prog) (T := 82) Try.underlying82 Try.underlying3 (w.alloc (.map combEntries 19)) w.heap.size combEntries 19 (heap_alloc_new w _) 26 comb_keys .nilFunc (zero_comb _)
  have hv : atInt 26 combEntries.toList = some (.func (.func 76) #[] #[]) := by rfl
  rw [hv] at hl
  simp only [Option.getD_some, Option.isSome_some] at hl
  rcases Bool.eq_false_or_eq_true (b == 0) with hz | hz
  all_goals go_enter Try.func23, Try.ntmps23
  all_goals go_wp2_with (first | (go_at_call 42; refine (combinations_any _).mono ?_; rintro e w' ⟨rfl, rfl⟩) | (go_at_call 76; refine (comb18 a b ha0 ha1 hb0 hb1 _).mono ?_; rintro e w' ⟨rfl, rfl⟩))
  all_goals go_ret2
  all_goals exact ⟨ret_two (arith_26 a b).symm rfl, (Below.refl _ _).alloc (Nat.le_refl _) _⟩
set_option maxRecDepth 100000 in
set_option maxHeartbeats 1000000 in
theorem apply_none (op a b : Int) (h : op < 8 ∨ 26 < op) (w : World) :
    Calls Try.prog 23 #[.int .i64 op, .int .u32 a, .int .u32 b] w fun e w' => e = .returned (.tuple #[.int .u32 0, .int .i64 1]) ∧ Below w.heap.size w w' := by
  have hl := run_lookup_int (P := Try.prog) (T := 82) Try.underlying82 Try.underlying3 (w.alloc (.map combEntries 19)) w.heap.size combEntries 19 (heap_alloc_new w _) op comb_keys .nilFunc (zero_comb _)
  have hv : atInt op combEntries.toList = none := by
    simp only [combEntries, atInt, keyInt]
    repeat rw [if_neg (by omega)]
  rw [hv] at hl
  simp only [Option.getD_none, Option.isSome_none] at hl
  clear hv
  have HH := Lib.hid h
  clear h
  go_enter Try.func23, Try.ntmps23
  go_wp2_with (go_at_call 42; refine (combinations_any _).mono ?_; rintro e w' ⟨rfl, rfl⟩)
  all_goals go_ret2
  all_goals exact ⟨rfl, (Below.refl _ _).alloc (Nat.le_refl _) _⟩
set_option maxRecDepth 100000 in
set_option maxHeartbeats 1000000 in
theorem apply_110 (a : Int) (w : World) :
    Calls Try.prog 23 #[.int .i64 11, .int .u32 a, .int .u32 0] w fun e w' => e = .returned (.tuple #[.int .u32 0, .int .i64 17]) ∧ Below w.heap.size w w' := by
  have hl := run_lookup_int (P := Try.prog) (T := 82) Try.underlying82 Try.underlying3 (w.alloc (.map combEntries 19)) w.heap.size combEntries 19 (heap_alloc_new w _) 11 comb_keys .nilFunc (zero_comb _)
  have hv : atInt 11 combEntries.toList = some (.func (.func 60) #[] #[]) := by rfl
  rw [hv] at hl
  simp only [Option.getD_some, Option.isSome_some] at hl
  go_enter Try.func23, Try.ntmps23
  go_wp2_with (go_at_call 42; refine (combinations_any _).mono ?_; rintro e w' ⟨rfl, rfl⟩)
  all_goals go_ret2
  all_goals exact ⟨rfl, (Below.refl _ _).alloc (Nat.le_refl _) _⟩
set_option maxRecDepth 100000 in
set_option maxHeartbeats 1000000 in
theorem apply_120 (a : Int) (w : World) :
    Calls Try.prog 23 #[.int .i64 12, .int .u32 a, .int .u32 0] w fun e w' => e = .returned (.tuple #[.int .u32 0, .int .i64 17]) ∧ Below w.heap.size w w' := by
  have hl := run_lookup_int (P := Try.prog) (T := 82) Try.underlying82 Try.underlying3 (w.alloc (.map combEntries 19)) w.heap.size combEntries 19 (heap_alloc_new w _) 12 comb_keys .nilFunc (zero_comb _)
  have hv : atInt 12 combEntries.toList = some (.func (.func 61) #[] #[]) := by rfl
  rw [hv] at hl
  simp only [Option.getD_some, Option.isSome_some] at hl
  go_enter Try.func23, Try.ntmps23
  go_wp2_with (go_at_call 42; refine (combinations_any _).mono ?_; rintro e w' ⟨rfl, rfl⟩)
  all_goals go_ret2
  all_goals exact ⟨rfl, (Below.refl _ _).alloc (Nat.le_refl _) _⟩
end Go.Proofs.Ytefdnjhhaejgbaa

namespace Go.Proofs.Ytefdnjhhaejgbaa
open Go.RowKit
set_option linter.unusedVariables false
set_option maxRecDepth 100000 in
set_option maxHeartbeats 1000000 in
theorem truth_any (b : Bool) (w : World) : Calls Try.prog 110 #[.bool b] w fun e w' => e = .returned (.int .u32 (flagI b)) ∧ w' = w := by
  cases b
  all_goals
    go_enter Try.func110, Try.ntmps110
    go_wp2
    go_ret
    exact ⟨rfl, rfl⟩
set_option maxRecDepth 100000 in
set_option maxHeartbeats 1000000 in
theorem rhash_any (a b : Int) (ha0 : 0 ≤ a) (ha1 : a < 4294967296) (hb0 : 0 ≤ b) (hb1 : b < 4294967296) (w : World) :
    Calls Try.prog 114 #[.int .u32 a, .int .u32 b] w fun e w' => e = .returned (.int .u32 (hash32 a b)) ∧ w' = w := by
  go_enter Try.func114, Try.ntmps114
  go_wp2
  go_ret
  refine ⟨ret_int ?_, rfl⟩
  first | rfl | (simp [hash32]; done)
set_option maxRecDepth 100000 in
set_option maxHeartbeats 1000000 in
theorem rapply_8 (a b : Int) (ha0 : 0 ≤ a) (ha1 : a < 4294967296) (hb0 : 0 ≤ b) (hb1 : b < 4294967296) (w : World) (he : arithErr 8 b = 0) :
    Calls Try.prog 112 #[.int .i64 8, .int .u32 a, .int .u32 b] w fun e w' => e = .returned (.tuple #[.int .u32 (arith 8 a b), .int .i64 0]) ∧ w' = w := by
  clear he
  rcases Bool.eq_false_or_eq_true (a == 0) with hz | hz
  all_goals rcases Bool.eq_false_or_eq_true (b == 0) with hy | hy
  all_goals first
    | (exfalso; simp at hy; contradiction)
    | skip
  all_goals go_enter Try.func112, Try.ntmps112
  all_goals go_wp2_with (first | (go_at_call 110; refine (truth_any _ _).mono ?_; rintro e w' ⟨rfl, rfl⟩) | (go_at_call 114; refine (rhash_any a b ha0 ha1 hb0 hb1 _).mono ?_; rintro e w' ⟨rfl, rfl⟩))
  all_goals go_ret2
  all_goals refine ⟨ret_two (Eq.trans ?_ (arith_8 a b).symm) rfl, rfl⟩
  all_goals first
    | rfl
    | (simp; done)
    | (simp [flagI, *]; done)
    | (simp_all [flagI]; done)
    | (simp [Int.tdiv_eq_ediv_of_nonneg ha0]; exact Int.emod_eq_of_lt (Int.ediv_nonneg ha0 hb0) (Int.lt_of_le_of_lt (Int.ediv_le_self b ha0) ha1))
    | omega
set_option maxRecDepth 100000 in
set_option maxHeartbeats 1000000 in
theorem rapply_9 (a b : Int) (ha0 : 0 ≤ a) (ha1 : a < 4294967296) (hb0 : 0 ≤ b) (hb1 : b < 4294967296) (w : World) (he : arithErr 9 b = 0) :
    Calls Try.prog 112 #[.int .i64 9, .int .u32 a, .int .u32 b] w fun e w' => e = .returned (.tuple #[.int .u32 (arith 9 a b), .int .i64 0]) ∧ w' = w := by
  clear he
  rcases Bool.eq_false_or_eq_true (a == 0) with hz | hz
  all_goals rcases Bool.eq_false_or_eq_true (b == 0) with hy | hy
  all_goals first
    | (exfalso; simp at hy; contradiction)
    | skip
  all_goals go_enter Try.func112, Try.ntmps112
  all_goals go_wp2_with (first | (go_at_call 110; refine (truth_any _ _).mono ?_; rintro e w' ⟨rfl, rfl⟩) | (go_at_call 114; refine (rhash_any a b ha0 ha1 hb0 hb1 _).mono ?_; rintro e w' ⟨rfl, rfl⟩))
  all_goals go_ret2
  all_goals refine ⟨ret_two (Eq.trans ?_ (arith_9 a b).symm) rfl, rfl⟩
  all_goals first
    | rfl
    | (simp; done)
    | (simp [flagI, *]; done)
    | (simp_all [flagI]; done)
    | (simp [Int.tdiv_eq_ediv_of_nonneg ha0]; exact Int.emod_eq_of_lt (Int.ediv_nonneg ha0 hb0) (Int.lt_of_le_of_lt (Int.ediv_le_self b ha0) ha1))
    | omega
set_option maxRecDepth 100000 in
set_option maxHeartbeats 1000000 in
theorem rapply_10 (a b : Int) (ha0 : 0 ≤ a) (ha1 : a < 4294967296) (hb0 : 0 ≤ b) (hb1 : b < 4294967296) (w : World) (he : arithErr 10 b = 0) :
    Calls Try.prog 112 #[.int .i64 10, .int .u32 a, .int .u32 b] w fun e w' => e = .returned (.tuple #[.int .u32 (arith 10 a b), .int .i64 0]) ∧ w' = w := by
  clear he
  rcases Bool.eq_false_or_eq_true (a == 0) with hz | hz
  all_goals rcases Bool.eq_false_or_eq_true (b == 0) with hy | hy
  all_goals first
    | (exfalso; simp at hy; contradiction)
    | skip
  all_goals go_enter Try.func112, Try.ntmps112
  all_goals go_wp2_with (first | (go_at_call 110; refine (truth_any _ _).mono ?_; rintro e w' ⟨rfl, rfl⟩) | (go_at_call 114; refine (rhash_any a b ha0 ha1 hb0 hb1 _).mono ?_; rintro e w' ⟨rfl, rfl⟩))
  all_goals go_ret2
  all_goals refine ⟨ret_two (Eq.trans ?_ (arith_10 a b).symm) rfl, rfl⟩
  all_goals first
    | rfl
    | (simp; done)
    | (simp [flagI, *]; done)
    | (simp_all [flagI]; done)
    | (simp [Int.tdiv_eq_ediv_of_nonneg ha0]; exact Int.emod_eq_of_lt (Int.ediv_nonneg ha0 hb0) (Int.lt_of_le_of_lt (Int.ediv_le_self b ha0) ha1))
    | omega
set_option maxRecDepth 100000 in
set_option maxHeartbeats 1000000 in
theorem rapply_11 (a b : Int) (ha0 : 0 ≤ a) (ha1 : a < 4294967296) (hb0 : 0 ≤ b) (hb1 : b < 4294967296) (w : World) (he : arithErr 11 b = 0) :
    Calls Try.prog 112 #[.int .i64 11, .int .u32 a, .int .u32 b] w fun e w' => e = .returned (.tuple #[.int .u32 (arith 11 a b), .int .i64 0]) ∧ w' = w := by
  have hb : ¬ b = 0 := fun hb => by unfold arithErr at he; simp [hb] at he
  clear he
  rcases Bool.eq_false_or_eq_true (a == 0) with hz | hz
  all_goals rcases Bool.eq_false_or_eq_true (b == 0) with hy | hy
  all_goals first
    | (exfalso; simp at hy; contradiction)
    | skip
  all_goals go_enter Try.func112, Try.ntmps112
  all_goals go_wp2_with (first | (go_at_call 110; refine (truth_any _ _).mono ?_; rintro e w' ⟨rfl, rfl⟩) | (go_at_call 114; refine (rhash_any a b ha0 ha1 hb0 hb1 _).mono ?_; rintro e w' ⟨rfl, rfl⟩))
  all_goals go_ret2
  all_goals refine ⟨ret_two (Eq.trans ?_ (arith_11 a b).symm) rfl, rfl⟩
  all_goals first
    | rfl
    | (simp; done)
    | (simp [flagI, *]; done)
    | (simp_all [flagI]; done)
    | (simp [Int.tdiv_eq_ediv_of_nonneg ha0]; exact Int.emod_eq_of_lt (Int.ediv_nonneg ha0 hb0) (Int.lt_of_le_of_lt (Int.ediv_le_self b ha0) ha1))
    | omega
set_option maxRecDepth 100000 in
set_option maxHeartbeats 1000000 in
theorem rapply_12 (a b : Int) (ha0 : 0 ≤ a) (ha1 : a < 4294967296) (hb0 : 0 ≤ b) (hb1 : b < 4294967296) (w : World) (he : arithErr 12 b = 0) :
    Calls Try.prog 112 #[.int .i64 12, .int .u32 a, .int .u32 b] w fun e w' => e = .returned (.tuple #[.int .u32 (arith 12 a b), .int .i64 0]) ∧ w' = w := by
  have hb : ¬ b = 0 := fun hb => by unfold arithErr at he; simp [hb] at he
  clear he
  rcases Bool.eq_false_or_eq_true (a == 0) with hz | hz
  all_goals rcases Bool.eq_false_or_eq_true (b == 0) with hy | hy
  all_goals first
    | (exfalso; simp at hy; contradiction)
    | skip
  all_goals go_enter Try.func112, Try.ntmps112
  all_goals go_wp2_with (first | (go_at_call 110; refine (truth_any _ _).mono ?_; rintro e w' ⟨rfl, rfl⟩) | (go_at_call 114; refine (rhash_any a b ha0 ha1 hb0 hb1 _).mono ?_; rintro e w' ⟨rfl, rfl⟩))
  all_goals go_ret2
  all_goals refine ⟨ret_two (Eq.trans ?_ (arith_12 a b).symm) rfl, rfl⟩
  all_goals first
    | rfl
    | (simp; done)
    | (simp [flagI, *]; done)
    | (simp_all [flagI]; done)
    | (simp [Int.tdiv_eq_ediv_of_nonneg ha0]; exact Int.emod_eq_of_lt (Int.ediv_nonneg ha0 hb0) (Int.lt_of_le_of_lt (Int.ediv_le_self b ha0) ha1))
    | omega
set_option maxRecDepth 100000 in
set_option maxHeartbeats 1000000 in
theorem rapply_13 (a b : Int) (ha0 : 0 ≤ a) (ha1 : a < 4294967296) (hb0 : 0 ≤ b) (hb1 : b < 4294967296) (w : World) (he : arithErr 13 b = 0) :
    Calls Try.prog 112 #[.int .i64 13, .int .u32 a, .int .u32 b] w fun e w' => e = .returned (.tuple #[.int .u32 (arith 13 a b), .int .i64 0]) ∧ w' = w := by
  clear he
  rcases Bool.eq_false_or_eq_true (a == 0) with hz | hz
  all_goals rcases Bool.eq_false_or_eq_true (b == 0) with hy | hy
  all_goals first
    | (exfalso; simp at hy; contradiction)
    | skip
  all_goals go_enter Try.func112, Try.ntmps112
  all_goals go_wp2_with (first | (go_at_call 110; refine (truth_any _ _).mono ?_; rintro e w' ⟨rfl, rfl⟩) | (go_at_call 114; refine (rhash_any a b ha0 ha1 hb0 hb1 _).mono ?_; rintro e w' ⟨rfl, rfl⟩))
  all_goals go_ret2
  all_goals refine ⟨ret_two (Eq.trans ?_ (arith_13 a b).symm) rfl, rfl⟩
  all_goals first
    | rfl
    | (simp; done)
    | (simp [flagI, *]; done)
    | (simp_all [flagI]; done)
    | (simp [Int.tdiv_eq_ediv_of_nonneg ha0]; exact Int.emod_eq_of_lt (Int.ediv_nonneg ha0 hb0) (Int.lt_of_le_of_lt (Int.ediv_le_self b ha0) ha1))
    | omega
set_option maxRecDepth 100000 in
set_option maxHeartbeats 1000000 in
theorem rapply_14 (a b : Int) (ha0 : 0 ≤ a) (ha1 : a < 4294967296) (hb0 : 0 ≤ b) (hb1 : b < 4294967296) (w : World) (he : arithErr 14 b = 0) :
    Calls Try.prog 112 #[.int .i64 14, .int .u32 a, .int .u32 b] w fun e w' => e = .returned (.tuple #[.int .u32 (arith 14 a b), .int .i64 0]) ∧ w' = w := by
  clear he
  rcases Bool.eq_false_or_eq_true (a == 0) with hz | hz
  all_goals rcases Bool.eq_false_or_eq_true (b == 0) with hy | hy
  all_goals first
    | (exfalso; simp at hy; contradiction)
    | skip
  all_goals go_enter Try.func112, Try.ntmps112
  all_goals go_wp2_with (first | (go_at_call 110; refine (truth_any _ _).mono ?_; rintro e w' ⟨rfl, rfl⟩) | (go_at_call 114; refine (rhash_any a b ha0 ha1 hb0 hb1 _).mono ?_; rintro e w' ⟨rfl, rfl⟩))
  all_goals go_ret2
  all_goals refine ⟨ret_two (Eq.trans ?_ (arith_14 a b).symm) rfl, rfl⟩
  all_goals first
    | rfl
    | (simp; done)
    | (simp [flagI, *]; done)
    | (simp_all [flagI]; done)
    | (simp [Int.tdiv_eq_ediv_of_nonneg ha0]; exact Int.emod_eq_of_lt (Int.ediv_nonneg ha0 hb0) (Int.lt_of_le_of_lt (Int.ediv_le_self b ha0) ha1))
    | omega
set_option maxRecDepth 100000 in
set_option maxHeartbeats 1000000 in
theorem rapply_15 (a b : Int) (ha0 : 0 ≤ a) (ha1 : a < 4294967296) (hb0 : 0 ≤ b) (hb1 : b < 4294967296) (w : World) (he : arithErr 15 b = 0) :
    Calls Try.prog 112 #[.int .i64 15, .int .u32 a, .int .u32 b] w fun e w' => e = .returned (.tuple #[.int .u32 (arith 15 a b), .int .i64 0]) ∧ w' = w := by
  clear he
  rcases Bool.eq_false_or_eq_true (a == 0) with hz | hz
  all_goals rcases Bool.eq_false_or_eq_true (b == 0) with hy | hy
  all_goals first
    | (exfalso; simp at hy; contradiction)
    | skip
  all_goals go_enter Try.func112, Try.ntmps112
  all_goals go_wp2_with (first | (go_at_call 110; refine (truth_any _ _).mono ?_; rintro e w' ⟨rfl, rfl⟩) | (go_at_call 114; refine (rhash_any a b ha0 ha1 hb0 hb1 _).mono ?_; rintro e w' ⟨rfl, rfl⟩))
  all_goals go_ret2
  all_goals refine ⟨ret_two (Eq.trans ?_ (arith_15 a b).symm) rfl, rfl⟩
  all_goals first
    | rfl
    | (simp; done)
    | (simp [flagI, *]; done)
    | (simp_all [flagI]; done)
    | (simp [Int.tdiv_eq_ediv_of_nonneg ha0]; exact Int.emod_eq_of_lt (Int.ediv_nonneg ha0 hb0) (Int.lt_of_le_of_lt (Int.ediv_le_self b ha0) ha1))
    | omega
set_option maxRecDepth 100000 in
set_option maxHeartbeats 1000000 in
theorem rapply_16 (a b : Int) (ha0 : 0 ≤ a) (ha1 : a < 4294967296) (hb0 : 0 ≤ b) (hb1 : b < 4294967296) (w : World) (he : arithErr 16 b = 0) :
    Calls Try.prog 112 #[.int .i64 16, .int .u32 a, .int .u32 b] w fun e w' => e = .returned (.tuple #[.int .u32 (arith 16 a b), .int .i64 0]) ∧ w' = w := by
  clear he
  rcases Bool.eq_false_or_eq_true (a == 0) with hz | hz
  all_goals rcases Bool.eq_false_or_eq_true (b == 0) with hy | hy
  all_goals first
    | (exfalso; simp at hy; contradiction)
    | skip
  all_goals go_enter Try.func112, Try.ntmps112
  all_goals go_wp2_with (first | (go_at_call 110; refine (truth_any _ _).mono ?_; rintro e w' ⟨rfl, rfl⟩) | (go_at_call 114; refine (rhash_any a b ha0 ha1 hb0 hb1 _).mono ?_; rintro e w' ⟨rfl, rfl⟩))
  all_goals go_ret2
  all_goals refine ⟨ret_two (Eq.trans ?_ (arith_16 a b).symm) rfl, rfl⟩
  all_goals first
    | rfl
    | (simp; done)
    | (simp [flagI, *]; done)
    | (simp_all [flagI]; done)
    | (simp [Int.tdiv_eq_ediv_of_nonneg ha0]; exact Int.emod_eq_of_lt (Int.ediv_nonneg ha0 hb0) (Int.lt_of_le_of_lt (Int.ediv_le_self b ha0) ha1))
    | omega
set_option maxRecDepth 100000 in
set_option maxHeartbeats 1000000 in
theorem rapply_17 (a b : Int) (ha0 : 0 ≤ a) (ha1 : a < 4294967296) (hb0 : 0 ≤ b) (hb1 : b < 4294967296) (w : World) (he : arithErr 17 b = 0) :
    Calls Try.prog 112 #[.int .i64 17, .int .u32 a, .int .u32 b] w fun e w' => e = .returned (.tuple #[.int .u32 (arith 17 a b), .int .i64 0]) ∧ w' = w := by
  clear he
  rcases Bool.eq_false_or_eq_true (a == 0) with hz | hz
  all_goals rcases Bool.eq_false_or_eq_true (b == 0) with hy | hy
  all_goals first
    | (exfalso; simp at hy; contradiction)
    | skip
  all_goals go_enter Try.func112, Try.ntmps112
  all_goals go_wp2_with (first | (go_at_call 110; refine (truth_any _ _).mono ?_; rintro e w' ⟨rfl, rfl⟩) | (go_at_call 114; refine (rhash_any a b ha0 ha1 hb0 hb1 _).mono ?_; rintro e w' ⟨rfl, rfl⟩))
  all_goals go_ret2
  all_goals refine ⟨ret_two (Eq.trans ?_ (arith_17 a b).symm) rfl, rfl⟩
  all_goals first
    | rfl
    | (simp; done)
    | (simp [flagI, *]; done)
    | (simp_all [flagI]; done)
    | (simp [Int.tdiv_eq_ediv_of_nonneg ha0]; exact Int.emod_eq_of_lt (Int.ediv_nonneg ha0 hb0) (Int.lt_of_le_of_lt (Int.ediv_le_self b ha0) ha1))
    | omega
set_option maxRecDepth 100000 in
set_option maxHeartbeats 1000000 in
theorem rapply_18 (a b : Int) (ha0 : 0 ≤ a) (ha1 : a < 4294967296) (hb0 : 0 ≤ b) (hb1 : b < 4294967296) (w : World) (he : arithErr 18 b = 0) :
    Calls Try.prog 112 #[.int .i64 18, .int .u32 a, .int .u32 b] w fun e w' => e = .returned (.tuple #[.int .u32 (arith 18 a b), .int .i64 0]) ∧ w' = w := by
  clear he
  rcases Bool.eq_false_or_eq_true (a == 0) with hz | hz
  all_goals rcases Bool.eq_false_or_eq_true (b == 0) with hy | hy
  all_goals first
    | (exfalso; simp at hy; contradiction)
    | skip
  all_goals go_enter Try.func112, Try.ntmps112
  all_goals go_wp2_with (first | (go_at_call 110; refine (truth_any _ _).mono ?_; rintro e w' ⟨rfl, rfl⟩) | (go_at_call 114; refine (rhash_any a b ha0 ha1 hb0 hb1 _).mono ?_; rintro e w' ⟨rfl, rfl⟩))
  all_goals go_ret2
  all_goals refine ⟨ret_two (Eq.trans ?_ (arith_18 a b).symm) rfl, rfl⟩
  all_goals first
    | rfl
    | (simp; done)
    | (simp [flagI, *]; done)
    | (simp_all [flagI]; done)
    | (simp [Int.tdiv_eq_ediv_of_nonneg ha0]; exact Int.emod_eq_of_lt (Int.ediv_nonneg ha0 hb0) (Int.lt_of_le_of_lt (Int.ediv_le_self b ha0) ha1))
    | omega
set_option maxRecDepth 100000 in
set_option maxHeartbeats 1000000 in
theorem rapply_19 (a b : Int) (ha0 : 0 ≤ a) (ha1 : a < 4294967296) (hb0 : 0 ≤ b) (hb1 : b < 4294967296) (w : World) (he : arithErr 19 b = 0) :
    Calls Try.prog 112 #[.int .i64 19, .int .u32 a, .int .u32 b] w fun e w' => e = .returned (.tuple #[.int .u32 (arith 19 a b), .int .i64 0]) ∧ w' = w := by
  clear he
  rcases Bool.eq_false_or_eq_true (a == 0) with hz | hz
  all_goals rcases Bool.eq_false_or_eq_true (b == 0) with hy | hy
  all_goals first
    | (exfalso; simp at hy; contradiction)
    | skip
  all_goals go_enter Try.func112, Try.ntmps112
  all_goals go_wp2_with (first | (go_at_call 110; refine (truth_any _ _).mono ?_; rintro e w' ⟨rfl, rfl⟩) | (go_at_call 114; refine (rhash_any a b ha0 ha1 hb0 hb1 _).mono ?_; rintro e w' ⟨rfl, rfl⟩))
  all_goals go_ret2
  all_goals refine ⟨ret_two (Eq.trans ?_ (arith_19 a b).symm) rfl, rfl⟩
  all_goals first
    | rfl
    | (simp; done)
    | (simp [flagI, *]; done)
    | (simp_all [flagI]; done)
    | (simp [Int.tdiv_eq_ediv_of_nonneg ha0]; exact Int.emod_eq_of_lt (Int.ediv_nonneg ha0 hb0) (Int.lt_of_le_of_lt (Int.ediv_le_self b ha0) ha1))
    | omega
set_option maxRecDepth 100000 in
set_option maxHeartbeats 1000000 in
theorem rapply_20 (a b : Int) (ha0 : 0 ≤ a) (ha1 : a < 4294967296) (hb0 : 0 ≤ b) (hb1 : b < 4294967296) (w : World) (he : arithErr 20 b = 0) :
    Calls Try.prog 112 #[.int .i64 20, .int .u32 a, .int .u32 b] w fun e w' => e = .returned (.tuple #[.int .u32 (arith 20 a b), .int .i64 0]) ∧ w' = w := by
  clear he
  rcases Bool.eq_false_or_eq_true (a == 0) with hz | hz
  all_goals rcases Bool.eq_false_or_eq_true (b == 0) with hy | hy
  all_goals first
    | (exfalso; simp at hy; contradiction)
    | skip
  all_goals go_enter Try.func112, Try.ntmps112
  all_goals go_wp2_with (first | (go_at_call 110; refine (truth_any _ _).mono ?_; rintro e w' ⟨rfl, rfl⟩) | (go_at_call 114; refine (rhash_any a b ha0 ha1 hb0 hb1 _).mono ?_; rintro e w' ⟨rfl, rfl⟩))
  all_goals go_ret2
  all_goals refine ⟨ret_two (Eq.trans ?_ (arith_20 a b).symm) rfl, rfl⟩
  all_goals first
    | rfl
    | (simp; done)
    | (simp [flagI, *]; done)
    | (simp_all [flagI]; done)
    | (simp [Int.tdiv_eq_ediv_of_nonneg ha0]; exact Int.emod_eq_of_lt (Int.ediv_nonneg ha0 hb0) (Int.lt_of_le_of_lt (Int.ediv_le_self b ha0) ha1))
    | omega
set_option maxRecDepth 100000 in
set_option maxHeartbeats 1000000 in
theorem rapply_21 (a b : Int) (ha0 : 0 ≤ a) (ha1 : a < 4294967296) (hb0 : 0 ≤ b) (hb1 : b < 4294967296) (w : World) (he : arithErr 21 b = 0) :
    Calls Try.prog 112 #[.int .i64 21, .int .u32 a, .int .u32 b] w fun e w' => e = .returned (.tuple #[.int .u32 (arith 21 a b), .int .i64 0]) ∧ w' = w := by
  clear he
  rcases Bool.eq_false_or_eq_true (a == 0) with hz | hz
  all_goals rcases Bool.eq_false_or_eq_true (b == 0) with hy | hy
  all_goals first
    | (exfalso; simp at hy; contradiction)
    | skip
  all_goals go_enter Try.func112, Try.ntmps112
  all_goals go_wp2_with (first | (go_at_call 110; refine (truth_any _ _).mono ?_; rintro e w' ⟨rfl, rfl⟩) | (go_at_call 114; refine (rhash_any a b ha0 ha1 hb0 hb1 _).mono ?_; rintro e w' ⟨rfl, rfl⟩))
  all_goals go_ret2
  all_goals refine ⟨ret_two (Eq.trans ?_ (arith_21 a b).symm) rfl, rfl⟩
  all_goals first
    | rfl
    | (simp; done)
    | (simp [flagI, *]; done)
    | (simp_all [flagI]; done)
    | (simp [Int.tdiv_eq_ediv_of_nonneg ha0]; exact Int.emod_eq_of_lt (Int.ediv_nonneg ha0 hb0) (Int.lt_of_le_of_lt (Int.ediv_le_self b ha0) ha1))
    | omega
set_option maxRecDepth 100000 in
set_option maxHeartbeats 1000000 in
theorem rapply_22 (a b : Int) (ha0 : 0 ≤ a) (ha1 : a < 4294967296) (hb0 : 0 ≤ b) (hb1 : b < 4294967296) (w : World) (he : arithErr 22 b = 0) :
    Calls Try.prog 112 #[.int .i64 22, .int .u32 a, .int .u32 b] w fun e w' => e = .returned (.tuple #[.int .u32 (arith 22 a b), .int .i64 0]) ∧ w' = w := by
  clear he
  rcases Bool.eq_false_or_eq_true (a == 0) with hz | hz
  all_goals rcases Bool.eq_false_or_eq_true (b == 0) with hy | hy
  all_goals first
    | (exfalso; simp at hy; contradiction)
    | skip
  all_goals go_enter Try.func112, Try.ntmps112
  all_goals go_wp2_with (first | (go_at_call 110; refine (truth_any _ _).mono ?_; rintro e w' ⟨rfl, rfl⟩) | (go_at_call 114; refine (rhash_any a b ha0 ha1 hb0 hb1 _).mono ?_; rintro e w' ⟨rfl, rfl⟩))
  all_goals go_ret2
  all_goals refine ⟨ret_two (Eq.trans ?_ (arith_22 a b).symm) rfl, rfl⟩
  all_goals first
    | rfl
    | (simp; done)
    | (simp [flagI, *]; done)
    | (simp_all [flagI]; done)
    | (simp [Int.tdiv_eq_ediv_of_nonneg ha0]; exact Int.emod_eq_of_lt (Int.ediv_nonneg ha0 hb0) (Int.lt_of_le_of_lt (Int.ediv_le_self b ha0) ha1))
    | omega
set_option maxRecDepth 100000 in
set_option maxHeartbeats 1000000 in
theorem rapply_23 (a b : Int) (ha0 : 0 ≤ a) (ha1 : a < 4294967296) (hb0 : 0 ≤ b) (hb1 : b < 4294967296) (w : World) (he : arithErr 23 b = 0) :
    Calls Try.prog 112 #[.int .i64 23, .int .u32 a, .int .u32 b] w fun e w' => e = .returned (.tuple #[.int .u32 (arith 23 a b), .int .i64 0]) ∧ w' = w := by
  clear he
  rcases Bool.eq_false_or_eq_true (a == 0) with hz | hz
  all_goals rcases Bool.eq_false_or_eq_true (b == 0) with hy | hy
  all_goals first
    | (exfalso; simp at hy; contradiction)
    | skip
  all_goals go_enter Try.func112, Try.ntmps112
  all_goals go_wp2_with (first | (go_at_call 110; refine (truth_any _ _).mono ?_; rintro e w' ⟨rfl, rfl⟩) | (go_at_call 114; refine (rhash_any a b ha0 ha1 hb0 hb1 _).mono ?_; rintro e w' ⟨rfl, rfl⟩))
  all_goals go_ret2
  all_goals refine ⟨ret_two (Eq.trans ?_ (arith_23 a b).symm) rfl, rfl⟩
  all_goals first
    | rfl
    | (simp; done)
    | (simp [flagI, *]; done)
    | (simp_all [flagI]; done)
    | (simp [Int.tdiv_eq_ediv_of_nonneg ha0]; exact Int.emod_eq_of_lt (Int.ediv_nonneg ha0 hb0) (Int.lt_of_le_of_lt (Int.ediv_le_self b ha0) ha1))
    | omega
set_option maxRecDepth 100000 in
set_option maxHeartbeats 1000000 in
theorem rapply_24 (a b : Int) (ha0 : 0 ≤ a) (ha1 : a < 4294967296) (hb0 : 0 ≤ b) (hb1 : b < 4294967296) (w : World) (he : arithErr 24 b = 0) :
    Calls Try.prog 112 #[.int .i64 24, .int .u32 a, .int .u32 b] w fun e w' => e = .returned (.tuple #[.int .u32 (arith 24 a b), .int .i64 0]) ∧ w' = w := by
  clear he
  rcases Bool.eq_false_or_eq_true (a == 0) with hz | hz
  all_goals rcases Bool.eq_false_or_eq_true (b == 0) with hy | hy
  all_goals first
    | (exfalso; simp at hy; contradiction)
    | skip
  all_goals go_enter Try.func112, Try.ntmps112
  all_goals go_wp2_with (first | (go_at_call 110; refine (truth_any _ _).mono ?_; rintro e w' ⟨rfl, rfl⟩) | (go_at_call 114; refine (rhash_any a b ha0 ha1 hb0 hb1 _).mono ?_; rintro e w' ⟨rfl, rfl⟩))
  all_goals go_ret2
  all_goals refine ⟨ret_two (Eq.trans ?_ (arith_24 a b).symm) rfl, rfl⟩
  all_goals first
    | rfl
    | (simp; done)
    | (simp [flagI, *]; done)
    | (simp_all [flagI]; done)
    | (simp [Int.tdiv_eq_ediv_of_nonneg ha0]; exact Int.emod_eq_of_lt (Int.ediv_nonneg ha0 hb0) (Int.lt_of_le_of_lt (Int.ediv_le_self b ha0) ha1))
    | omega
set_option maxRecDepth 100000 in
set_option maxHeartbeats 1000000 in
theorem rapply_25 (a b : Int) (ha0 : 0 ≤ a) (ha1 : a < 4294967296) (hb0 : 0 ≤ b) (hb1 : b < 4294967296) (w : World) (he : arithErr 25 b = 0) :
    Calls Try.prog 112 #[.int .i64 25, .int .u32 a, .int .u32 b] w fun e w' => e = .returned (.tuple #[.int .u32 (arith 25 a b), .int .i64 0]) ∧ w' = w := by
  clear he
  rcases Bool.eq_false_or_eq_true (a == 0) with hz | hz
  all_goals rcases Bool.eq_false_or_eq_true (b == 0) with hy | hy
  all_goals first
    | (exfalso; simp at hy; contradiction)
    | skip
  all_goals go_enter Try.func112, Try.ntmps112
  all_goals go_wp2_with (first | (go_at_call 110; refine (truth_any _ _).mono ?_; rintro e w' ⟨rfl, rfl⟩) | (go_at_call 114; refine (rhash_any a b ha0 ha1 hb0 hb1 _).mono ?_; rintro e w' ⟨rfl, rfl⟩))
  all_goals go_ret2
  all_goals refine ⟨ret_two (Eq.trans ?_ (arith_25 a b).symm) rfl, rfl⟩
  all_goals first
    | rfl
    | (simp; done)
    | (simp [flagI, *]; done)
    | (simp_all [flagI]; done)
    | (simp [Int.tdiv_eq_ediv_of_nonneg ha0]; exact Int.emod_eq_of_lt (Int.ediv_nonneg ha0 hb0) (Int.lt_of_le_of_lt (Int.ediv_le_self b ha0) ha1))
    | omega
set_option maxRecDepth 100000 in
set_option maxHeartbeats 1000000 in
theorem rapply_26 (a b : Int) (ha0 : 0 ≤ a) (ha1 : a < 4294967296) (hb0 : 0 ≤ b) (hb1 : b < 4294967296) (w : World) (he : arithErr 26 b = 0) :
    Calls Try.prog 112 #[.int .i64 26, .int .u32 a, .int .u32 b] w fun e w' => e = .returned (.tuple #[.int .u32 (arith 26 a b), .int .i64 0]) ∧ w' = w := by
  clear he
  rcases Bool.eq_false_or_eq_true (a == 0) with hz | hz
  all_goals rcases Bool.eq_false_or_eq_true (b == 0) with hy | hy
  all_goals first
    | (exfalso; simp at hy; contradiction)
    | skip
  all_goals go_enter Try.func112, Try.ntmps112
  all_goals go_wp2_with (first | (go_at_call 110; refine (truth_any _ _).mono ?_; rintro e w' ⟨rfl, rfl⟩) | (go_at_call 114; refine (rhash_any a b ha0 ha1 hb0 hb1 _).mono ?_; rintro e w' ⟨rfl, rfl⟩))
  all_goals go_ret2
  all_goals refine ⟨ret_two (Eq.trans ?_ (arith_26 a b).symm) rfl, rfl⟩
  all_goals first
    | rfl
    | (simp; done)
    | (simp [flagI, *]; done)
    | (simp_all [flagI]; done)
    | (simp [Int.tdiv_eq_ediv_of_nonneg ha0]; exact Int.emod_eq_of_lt (Int.ediv_nonneg ha0 hb0) (Int.lt_of_le_of_lt (Int.ediv_le_self b ha0) ha1))
    | omega
set_option maxRecDepth 100000 in
set_option maxHeartbeats 1000000 in
theorem rapplyE_11 (a : Int) (w : World) :
    Calls Try.prog 112 #[.int .i64 11, .int .u32 a, .int .u32 0] w fun e w' => e = .returned (.tuple #[.int .u32 0, .int .i64 17]) ∧ w' = w := by
  go_enter Try.func112, Try.ntmps112
  go_wp2
  go_ret2
  exact ⟨rfl, rfl⟩
set_option maxRecDepth 100000 in
set_option maxHeartbeats 1000000 in
theorem rapplyE_12 (a : Int) (w : World) :
    Calls Try.prog 112 #[.int .i64 12, .int .u32 a, .int .u32 0] w fun e w' => e = .returned (.tuple #[.int .u32 0, .int .i64 17]) ∧ w' = w := by
  go_enter Try.func112, Try.ntmps112
  go_wp2
  go_ret2
  exact ⟨rfl, rfl⟩
theorem rapply_any (op a b : Int) (ho : 8 ≤ op ∧ op ≤ 26) (ha0 : 0 ≤ a) (ha1 : a < 4294967296) (hb0 : 0 ≤ b) (hb1 : b < 4294967296) (w : World) :
    Calls Try.prog 112 #[.int .i64 op, .int .u32 a, .int .u32 b] w fun e w' => e = .returned (.tuple #[.int .u32 (if arithErr op b = 0 then arith op a b else 0), .int .i64 (arithErr op b)]) ∧ w' = w := by
  by_cases he : arithErr op b = 0
  · rw [if_pos he, he]
    obtain ⟨h1, h2⟩ := ho
    by_cases o8 : op = 8
    · subst o8; exact rapply_8 a b ha0 ha1 hb0 hb1 w he
    by_cases o9 : op = 9
    · subst o9; exact rapply_9 a b ha0 ha1 hb0 hb1 w he
    by_cases o10 : op = 10
    · subst o10; exact rapply_10 a b ha0 ha1 hb0 hb1 w he
    by_cases o11 : op = 11
    · subst o11; exact rapply_11 a b ha0 ha1 hb0 hb1 w he
    by_cases o12 : op = 12
    · subst o12; exact rapply_12 a b ha0 ha1 hb0 hb1 w he
    by_cases o13 : op = 13
    · subst o13; exact rapply_13 a b ha0 ha1 hb0 hb1 w he
    by_cases o14 : op = 14
    · subst o14; exact rapply_14 a b ha0 ha1 hb0 hb1 w he
    by_cases o15 : op = 15
    · subst o15; exact rapply_15 a b ha0 ha1 hb0 hb1 w he
    by_cases o16 : op = 16
    · subst o16; exact rapply_16 a b ha0 ha1 hb0 hb1 w he
    by_cases o17 : op = 17
    · subst o17; exact rapply_17 a b ha0 ha1 hb0 hb1 w he
    by_cases o18 : op = 18
    · subst o18; exact rapply_18 a b ha0 ha1 hb0 hb1 w he
    by_cases o19 : op = 19
    · subst o19; exact rapply_19 a b ha0 ha1 hb0 hb1 w he
    by_cases o20 : op = 20
    · subst o20; exact rapply_20 a b ha0 ha1 hb0 hb1 w he
    by_cases o21 : op = 21
    · subst o21; exact rapply_21 a b ha0 ha1 hb0 hb1 w he
    by_cases o22 : op = 22
    · subst o22; exact rapply_22 a b ha0 ha1 hb0 hb1 w he
    by_cases o23 : op = 23
    · subst o23; exact rapply_23 a b ha0 ha1 hb0 hb1 w he
    by_cases o24 : op = 24
    · subst o24; exact rapply_24 a b ha0 ha1 hb0 hb1 w he
    by_cases o25 : op = 25
    · subst o25; exact rapply_25 a b ha0 ha1 hb0 hb1 w he
    by_cases o26 : op = 26
    · subst o26; exact rapply_26 a b ha0 ha1 hb0 hb1 w he
    omega
  · rw [if_neg he]
    have hb : b = 0 ∧ (op = 11 ∨ op = 12) := by
      unfold arithErr at he
      rw [if_neg (by omega)] at he
      exact Classical.byContradiction fun h => he (if_neg h)
    obtain ⟨rfl, rfl | rfl⟩ := hb
    · exact rapplyE_11 a w
    · exact rapplyE_12 a w
end Go.Proofs.Ytefdnjhhaejgbaa
