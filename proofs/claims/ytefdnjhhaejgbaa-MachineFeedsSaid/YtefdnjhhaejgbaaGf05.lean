/- A part of the proof of MachineFeeds: A C. No condition. -/
import Derived.BigQuiet
import Derived.Deep.QuietTactic
import Derived.WalkKit
import Derived.WalkLawsBesides
import Derived.WalkSpells
import Derived.Test.YtefdnjhhaejgbaaProg
import Derived.Test.YtefdnjhhaejgbaaGf01
set_option linter.unusedSimpArgs false
set_option linter.unusedVariables false
namespace Go.Proofs.Ytefdnjhhaejgbaa
open Go.RowKit
theorem ret_bool {a b : Bool} (h : a = b) : Ending.returned (.bool a) = .returned (.bool b) := by rw [h]
theorem ret_int {k : IntKind} {a b : Int} (h : a = b) : Ending.returned (.int k a) = .returned (.int k b) := by rw [h]
set_option maxHeartbeats 400000 in
theorem allowed_any (n : Int) (w : World) :
    Calls Try.prog 38 #[.int .i64 n] w fun e w' => e = .returned (.bool (decide (0 ≤ n) && decide (n ≤ 281474976710656))) ∧ w = w' := by
  by_cases h : 0 ≤ n
  all_goals
    go_enter Try.func38, Try.ntmps38
    go_wp2
    go_ret
    exact ⟨ret_bool (by simp [h]; try omega), rfl⟩
set_option maxHeartbeats 400000 in
theorem Check1_any (n : Int) (w : World) :
    Calls Try.prog 44 #[.int .i64 n] w fun e w' => e = .returned (.bool (decide (n < 0) || decide (1024 < n))) ∧ w = w' := by
  by_cases h : n < 0
  all_goals
    go_enter Try.func44, Try.ntmps44
    go_wp2
    go_ret
    exact ⟨ret_bool (by simp [h]; try omega), rfl⟩
set_option maxHeartbeats 400000 in
theorem fits1_any (n : Int) (w : World) :
    Calls Try.prog 51 #[.int .u32 n] w fun e w' => e = .returned (.bool (decide (255 < n))) ∧ w = w' := by
  go_enter Try.func51, Try.ntmps51
  go_wp2
  go_ret
  exact ⟨rfl, rfl⟩
set_option maxHeartbeats 400000 in
theorem demand_yes (e : Int) (w : World) :
    Calls Try.prog 108 #[.bool true, .int .i64 e] w fun e w' => e = .returned (.tuple #[]) ∧ w = w' := by
  go_enter Try.func108, Try.ntmps108
  go_wp2
  go_end0
  exact ⟨rfl, rfl⟩
def failed (n : Int) : List PanicEntry := [{ v := .iface 121 (.agg #[.int .i64 n]), recovered := false }]
set_option maxHeartbeats 400000 in
theorem demand_no (n : Int) (w : World) :
    Calls Try.prog 108 #[.bool false, .int .i64 n] w fun e w' => e = .panicked (failed n) ∧ w = w' := by
  go_enter Try.func108, Try.ntmps108
  go_wp2
  exact ⟨rfl, rfl, rfl⟩
set_option maxHeartbeats 400000 in
theorem instr_any (o t x y z : Int) (w : World) :
    Calls Try.prog 22 #[.int .i64 o, .int .i64 t, .int .i64 x, .int .i64 y, .int .u32 z] w fun e w' =>
      e = .returned (.agg #[.int .i64 o, .int .i64 t, .int .i64 x, .int .i64 y, .int .u32 z]) ∧ Below w.heap.size w w' ∧ w'.heap.size = w.heap.size + 1 := by
  go_enter Try.func22, Try.ntmps22
  go_wp2
  exact bodyPost_ret (v := .agg #[.int .i64 o, .int .i64 t, .int .i64 x, .int .i64 y, .int .u32 z]) (by simp [results, Try.results22, go_sem]) rfl
    ⟨rfl, (Below.refl _ _).alloc (Nat.le_refl _) _, by simp⟩
end Go.Proofs.Ytefdnjhhaejgbaa

namespace Go.Proofs.Ytefdnjhhaejgbaa
open Go.RowKit
set_option linter.unusedVariables false
set_option maxRecDepth 100000 in
set_option maxHeartbeats 1000000 in
theorem comb1 (a b : Int) (ha0 : 0 ≤ a) (ha1 : a < 4294967296) (hb0 : 0 ≤ b) (hb1 : b < 4294967296) (w : World) :
    Calls Try.prog 57 #[.int .u32 a, .int .u32 b] w fun e w' => e = .returned (.int .u32 ((a + b) % 4294967296)) ∧ w = w' := by
  all_goals go_enter Try.func57, Try.ntmps57
  all_goals go_wp2
  all_goals go_ret
  all_goals exact ⟨ret_int (by first | rfl | (simp; done) | (simp [flagI, *]; done) | (simp_all [flagI]; done) | omega), rfl⟩
set_option maxRecDepth 100000 in
set_option maxHeartbeats 1000000 in
theorem comb2 (a b : Int) (ha0 : 0 ≤ a) (ha1 : a < 4294967296) (hb0 : 0 ≤ b) (hb1 : b < 4294967296) (w : World) :
    Calls Try.prog 58 #[.int .u32 a, .int .u32 b] w fun e w' => e = .returned (.int .u32 ((a - b) % 4294967296)) ∧ w = w' := by
  all_goals go_enter Try.func58, Try.ntmps58
  all_goals go_wp2
  all_goals go_ret
  all_goals exact ⟨ret_int (by first | rfl | (simp; done) | (simp [flagI, *]; done) | (simp_all [flagI]; done) | omega), rfl⟩
set_option maxRecDepth 100000 in
set_option maxHeartbeats 1000000 in
theorem comb3 (a b : Int) (ha0 : 0 ≤ a) (ha1 : a < 4294967296) (hb0 : 0 ≤ b) (hb1 : b < 4294967296) (w : World) :
    Calls Try.prog 59 #[.int .u32 a, .int .u32 b] w fun e w' => e = .returned (.int .u32 ((a * b) % 4294967296)) ∧ w = w' := by
  all_goals go_enter Try.func59, Try.ntmps59
  all_goals go_wp2
  all_goals go_ret
  all_goals exact ⟨ret_int (by first | rfl | (simp; done) | (simp [flagI, *]; done) | (simp_all [flagI]; done) | omega), rfl⟩
set_option maxRecDepth 100000 in
set_option maxHeartbeats 1000000 in
theorem comb4 (a b : Int) (ha0 : 0 ≤ a) (ha1 : a < 4294967296) (hb0 : 0 ≤ b) (hb1 : b < 4294967296) (hb : ¬ b = 0) (w : World) :
    Calls Try.prog 60 #[.int .u32 a, .int .u32 b] w fun e w' => e = .returned (.int .u32 (a / b)) ∧ w = w' := by
  all_goals go_enter Try.func60, Try.ntmps60
  all_goals go_wp2
  all_goals go_ret
  all_goals exact ⟨ret_int (by first | rfl | (simp; done) | (simp [Int.tdiv_eq_ediv_of_nonneg ha0]; exact Int.emod_eq_of_lt (Int.ediv_nonneg ha0 hb0) (Int.lt_of_le_of_lt (Int.ediv_le_self b ha0) ha1)) | omega), rfl⟩
set_option maxRecDepth 100000 in
set_option maxHeartbeats 1000000 in
theorem comb5 (a b : Int) (ha0 : 0 ≤ a) (ha1 : a < 4294967296) (hb0 : 0 ≤ b) (hb1 : b < 4294967296) (hb : ¬ b = 0) (w : World) :
    Calls Try.prog 61 #[.int .u32 a, .int .u32 b] w fun e w' => e = .returned (.int .u32 (a % b)) ∧ w = w' := by
  all_goals go_enter Try.func61, Try.ntmps61
  all_goals go_wp2
  all_goals go_ret
  all_goals exact ⟨ret_int (by first | rfl | (simp; done) | (simp [flagI, *]; done) | (simp_all [flagI]; done) | omega), rfl⟩
set_option maxRecDepth 100000 in
set_option maxHeartbeats 1000000 in
theorem comb6 (a b : Int) (ha0 : 0 ≤ a) (ha1 : a < 4294967296) (hb0 : 0 ≤ b) (hb1 : b < 4294967296) (w : World) :
    Calls Try.prog 62 #[.int .u32 a, .int .u32 b] w fun e w' => e = .returned (.int .u32 (bits .and .u32 a b)) ∧ w = w' := by
  all_goals go_enter Try.func62, Try.ntmps62
  all_goals go_wp2
  all_goals go_ret
  all_goals exact ⟨ret_int (by first | rfl | (simp; done) | (simp [flagI, *]; done) | (simp_all [flagI]; done) | omega), rfl⟩
set_option maxRecDepth 100000 in
set_option maxHeartbeats 1000000 in
theorem comb7 (a b : Int) (ha0 : 0 ≤ a) (ha1 : a < 4294967296) (hb0 : 0 ≤ b) (hb1 : b < 4294967296) (w : World) :
    Calls Try.prog 63 #[.int .u32 a, .int .u32 b] w fun e w' => e = .returned (.int .u32 (bits .or .u32 a b)) ∧ w = w' := by
  all_goals go_enter Try.func63, Try.ntmps63
  all_goals go_wp2
  all_goals go_ret
  all_goals exact ⟨ret_int (by first | rfl | (simp; done) | (simp [flagI, *]; done) | (simp_all [flagI]; done) | omega), rfl⟩
set_option maxRecDepth 100000 in
set_option maxHeartbeats 1000000 in
theorem comb8 (a b : Int) (ha0 : 0 ≤ a) (ha1 : a < 4294967296) (hb0 : 0 ≤ b) (hb1 : b < 4294967296) (w : World) :
    Calls Try.prog 64 #[.int .u32 a, .int .u32 b] w fun e w' => e = .returned (.int .u32 (bits .xor .u32 a b)) ∧ w = w' := by
  all_goals go_enter Try.func64, Try.ntmps64
  all_goals go_wp2
  all_goals go_ret
  all_goals exact ⟨ret_int (by first | rfl | (simp; done) | (simp [flagI, *]; done) | (simp_all [flagI]; done) | omega), rfl⟩
set_option maxRecDepth 100000 in
set_option maxHeartbeats 1000000 in
theorem comb9 (a b : Int) (ha0 : 0 ≤ a) (ha1 : a < 4294967296) (hb0 : 0 ≤ b) (hb1 : b < 4294967296) (w : World) :
    Calls Try.prog 65 #[.int .u32 a, .int .u32 b] w fun e w' => e = .returned (.int .u32 (a * 2 ^ (b % 32).toNat % 4294967296)) ∧ w = w' := by
  all_goals go_enter Try.func65, Try.ntmps65
  all_goals go_wp2
  all_goals go_ret
  all_goals exact ⟨ret_int (by first | rfl | (simp; done) | (simp [flagI, *]; done) | (simp_all [flagI]; done) | omega), rfl⟩
set_option maxRecDepth 100000 in
set_option maxHeartbeats 1000000 in
theorem comb10 (a b : Int) (ha0 : 0 ≤ a) (ha1 : a < 4294967296) (hb0 : 0 ≤ b) (hb1 : b < 4294967296) (w : World) :
    Calls Try.prog 66 #[.int .u32 a, .int .u32 b] w fun e w' => e = .returned (.int .u32 (a / 2 ^ (b % 32).toNat)) ∧ w = w' := by
  all_goals go_enter Try.func66, Try.ntmps66
  all_goals go_wp2
  all_goals go_ret
  all_goals exact ⟨ret_int (by first | rfl | (simp; done) | (simp [flagI, *]; done) | (simp_all [flagI]; done) | omega), rfl⟩
set_option maxRecDepth 100000 in
set_option maxHeartbeats 1000000 in
theorem comb11 (a b : Int) (ha0 : 0 ≤ a) (ha1 : a < 4294967296) (hb0 : 0 ≤ b) (hb1 : b < 4294967296) (w : World) :
    Calls Try.prog 67 #[.int .u32 a, .int .u32 b] w fun e w' => e = .returned (.int .u32 (min a b)) ∧ w = w' := by
  by_cases h : a ≤ b
  all_goals go_enter Try.func67, Try.ntmps67
  all_goals go_wp2
  all_goals go_ret
  all_goals exact ⟨ret_int (by first | rfl | (simp; done) | (simp [flagI, *]; done) | (simp_all [flagI]; done) | omega), rfl⟩
set_option maxRecDepth 100000 in
set_option maxHeartbeats 1000000 in
theorem comb12 (a b : Int) (ha0 : 0 ≤ a) (ha1 : a < 4294967296) (hb0 : 0 ≤ b) (hb1 : b < 4294967296) (w : World) :
    Calls Try.prog 68 #[.int .u32 a, .int .u32 b] w fun e w' => e = .returned (.int .u32 (max a b)) ∧ w = w' := by
  by_cases h : a ≤ b
  all_goals go_enter Try.func68, Try.ntmps68
  all_goals go_wp2
  all_goals go_ret
  all_goals exact ⟨ret_int (by first | rfl | (simp; done) | (simp [flagI, *]; done) | (simp_all [flagI]; done) | omega), rfl⟩
set_option maxRecDepth 100000 in
set_option maxHeartbeats 1000000 in
theorem comb13 (a b : Int) (ha0 : 0 ≤ a) (ha1 : a < 4294967296) (hb0 : 0 ≤ b) (hb1 : b < 4294967296) (w : World) :
    Calls Try.prog 70 #[.int .u32 a, .int .u32 b] w fun e w' => e = .returned (.int .u32 (flagI (a == b))) ∧ w = w' := by
  by_cases h : (a == b) = true
  all_goals go_enter Try.func70, Try.ntmps70
  all_goals go_wp2
  all_goals go_ret
  all_goals exact ⟨ret_int (by first | rfl | (simp; done) | (simp [flagI, *]; done) | (simp_all [flagI]; done) | omega), rfl⟩
set_option maxRecDepth 100000 in
set_option maxHeartbeats 1000000 in
theorem comb14 (a b : Int) (ha0 : 0 ≤ a) (ha1 : a < 4294967296) (hb0 : 0 ≤ b) (hb1 : b < 4294967296) (w : World) :
    Calls Try.prog 72 #[.int .u32 a, .int .u32 b] w fun e w' => e = .returned (.int .u32 (flagI (decide (a < b)))) ∧ w = w' := by
  by_cases h : a < b
  all_goals go_enter Try.func72, Try.ntmps72
  all_goals go_wp2
  all_goals go_ret
  all_goals exact ⟨ret_int (by first | rfl | (simp; done) | (simp [flagI, *]; done) | (simp_all [flagI]; done) | omega), rfl⟩
set_option maxRecDepth 100000 in
set_option maxHeartbeats 1000000 in
theorem comb15 (a b : Int) (ha0 : 0 ≤ a) (ha1 : a < 4294967296) (hb0 : 0 ≤ b) (hb1 : b < 4294967296) (w : World) :
    Calls Try.prog 73 #[.int .u32 a, .int .u32 b] w fun e w' => e = .returned (.int .u32 (flagI (a == 0))) ∧ w = w' := by
  by_cases h : (a == 0) = true
  all_goals go_enter Try.func73, Try.ntmps73
  all_goals go_wp2
  all_goals go_ret
  all_goals exact ⟨ret_int (by first | rfl | (simp; done) | (simp [flagI, *]; done) | (simp_all [flagI]; done) | omega), rfl⟩
set_option maxRecDepth 100000 in
set_option maxHeartbeats 1000000 in
theorem comb16 (a b : Int) (ha0 : 0 ≤ a) (ha1 : a < 4294967296) (hb0 : 0 ≤ b) (hb1 : b < 4294967296) (w : World) :
    Calls Try.prog 74 #[.int .u32 a, .int .u32 b] w fun e w' => e = .returned (.int .u32 (flagI (a != 0 && b != 0))) ∧ w = w' := by
  by_cases h1 : a = 0
  all_goals by_cases h2 : b = 0
  all_goals go_enter Try.func74, Try.ntmps74
  all_goals go_wp2
  all_goals go_ret
  all_goals exact ⟨ret_int (by first | rfl | (simp; done) | (simp [flagI, *]; done) | (simp_all [flagI]; done) | omega), rfl⟩
set_option maxRecDepth 100000 in
set_option maxHeartbeats 1000000 in
theorem comb17 (a b : Int) (ha0 : 0 ≤ a) (ha1 : a < 4294967296) (hb0 : 0 ≤ b) (hb1 : b < 4294967296) (w : World) :
    Calls Try.prog 75 #[.int .u32 a, .int .u32 b] w fun e w' => e = .returned (.int .u32 (flagI (a != 0 || b != 0))) ∧ w = w' := by
  by_cases h1 : a = 0
  all_goals by_cases h2 : b = 0
  all_goals go_enter Try.func75, Try.ntmps75
  all_goals go_wp2
  all_goals go_ret
  all_goals exact ⟨ret_int (by first | rfl | (simp; done) | (simp [flagI, *]; done) | (simp_all [flagI]; done) | omega), rfl⟩
set_option maxRecDepth 100000 in
set_option maxHeartbeats 1000000 in
theorem comb18 (a b : Int) (ha0 : 0 ≤ a) (ha1 : a < 4294967296) (hb0 : 0 ≤ b) (hb1 : b < 4294967296) (w : World) :
    Calls Try.prog 76 #[.int .u32 a, .int .u32 b] w fun e w' => e = .returned (.int .u32 (flagI (a != 0))) ∧ w = w' := by
  by_cases h1 : a = 0
  all_goals by_cases h2 : b = 0
  all_goals go_enter Try.func76, Try.ntmps76
  all_goals go_wp2
  all_goals go_ret
  all_goals exact ⟨ret_int (by first | rfl | (simp; done) | (simp [flagI, *]; done) | (simp_all [flagI]; done) | omega), rfl⟩
set_option maxRecDepth 100000 in
set_option maxHeartbeats 1000000 in
theorem hash_any (a b : Int) (ha0 : 0 ≤ a) (ha1 : a < 4294967296) (hb0 : 0 ≤ b) (hb1 : b < 4294967296) (w : World) :
    Calls Try.prog 69 #[.int .u32 a, .int .u32 b] w fun e w' => e = .returned (.int .u32 (hash32 a b)) ∧ w = w' := by
  go_enter Try.func69, Try.ntmps69
  go_wp2
  go_ret
  refine ⟨ret_int ?_, rfl⟩
  first | rfl | (simp [hash32]; done) | skip
end Go.Proofs.Ytefdnjhhaejgbaa
