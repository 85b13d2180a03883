/-
  PROVED: 'Rows.MachineStartsSaid': MachineStarts returns true for all code. No condition.
-/
import Derived.OpenShut
import Derived.ProofKit
import Derived.ShutString
import Derived.WalkKit
import Derived.Test.YtefdnjhhaejgbaaGs31
import Derived.Test.YtefdnjhhaejgbaaGs33
import Derived.Test.YtefdnjhhaejgbaaGs15
import Derived.Test.YtefdnjhhaejgbaaGs30
import Derived.Test.YtefdnjhhaejgbaaGs27
import Derived.Test.YtefdnjhhaejgbaaRows
set_option linter.unusedSimpArgs false
set_option linter.unusedVariables false
namespace Go.Proofs.Ytefdnjhhaejgbaa
open Go.RowKit
set_option linter.unusedVariables false

/-- the reference's check of arrays; true: an error -/
def refArs : List Ar → Int → Bool
  | [], _ => false
  | a :: l, c => if a.size < 1 ∨ 65536 - c < a.size then true else refArs l (c + a.size)
theorem refArs_is : ∀ (l : List Ar) (c : Int), 0 ≤ c → c ≤ 65536 → refArs l c = match chkArs l c with | none => true | some n => decide (65536 < n)
  | [], c, h1, h2 => by simp [refArs, chkArs]; omega
  | a :: l, c, h1, h2 => by
    simp only [refArs, chkArs]
    by_cases ha : a.size < 1
    · rw [if_pos (.inl ha), if_pos (.inl ha)]
    by_cases hb : 65536 < a.size
    · rw [if_pos (.inr (by omega)), if_pos (.inr hb)]
    rw [if_neg (show ¬ (a.size < 1 ∨ 65536 < a.size) by omega)]
    by_cases hc : 65536 - c < a.size
    · rw [if_pos (.inr hc)]
      cases hm : chkArs l (c + a.size) with
      | none => rfl
      | some m =>
        have := (chkArs_le l _ _ hm (by omega)).1
        simp
        omega
    · rw [if_neg (by omega)]
      exact refArs_is l (c + a.size) (by omega) (by omega)

theorem chk_ars {ars : List Ar} {regs spills : Int} {cd : List RI} (h8 : ars.length ≤ 8) (h : refArs ars 0 = true) : (chkCode ars regs spills cd).2 = 2 := by
  rw [refArs_is ars 0 (by omega) (by omega)] at h
  unfold chkCode
  rw [if_neg (by omega)]
  cases hm : chkArs ars 0 with
  | none => rfl
  | some n =>
    rw [hm] at h
    simp only
    rw [if_pos (.inl (by simpa using h))]
theorem chk_regs {ars : List Ar} {regs spills : Int} {cd : List RI} (h8 : ars.length ≤ 8) (h : regs < 0 ∨ 1024 < regs ∨ spills < 0 ∨ 1024 < spills) : (chkCode ars regs spills cd).2 = 2 := by
  unfold chkCode
  rw [if_neg (by omega)]
  cases hm : chkArs ars 0 with
  | none => rfl
  | some n => simp only; rw [if_pos (.inr h)]
theorem chk_rest {ars : List Ar} {regs spills : Int} {cd : List RI} (h8 : ars.length ≤ 8) (h : refArs ars 0 = false) (hr : ¬ (regs < 0 ∨ 1024 < regs ∨ spills < 0 ∨ 1024 < spills)) :
    chkCode ars regs spills cd = if 16384 < cd.length then (0, 6) else match chkAll regs spills ars.length cd 0 with | some r => r | none => if (nestRun cd 0 []).2 then ((nestRun cd 0 []).1, 15) else (0, 0) := by
  rw [refArs_is ars 0 (by omega) (by omega)] at h
  unfold chkCode
  rw [if_neg (by omega)]
  cases hm : chkArs ars 0 with
  | none => rw [hm] at h; cases h
  | some n =>
    rw [hm] at h
    simp only
    rw [if_neg (by
      rintro (h1 | h1)
      · simp at h; omega
      · exact hr h1)]
    rfl

theorem part_safe {cd : List RI} {out : List Int} (h : prun cd cd.length 0 (List.replicate cd.length 0) [] = .ok (out, [])) : ∃ t : T, cd = t.flat ∧ t.wf false 8 ∧ out = t.rp 0 := by
  have hn := prun_nest cd.length 0 (List.replicate cd.length 0) [] [] (prel_init cd) (by omega)
  rw [h] at hn
  simp only [List.drop_zero, List.length_nil, Nat.lt_irrefl, decide_false] at hn
  obtain ⟨t, rfl, hw⟩ := parse_all cd hn
  rw [prun_flat t hw] at h
  cases h
  exact ⟨t, rfl, hw, rfl⟩
theorem part_lv {cd : List RI} : ∀ out, prun cd cd.length 0 (List.replicate cd.length 0) [] = .ok (out, []) → ∃ r, lrun cd cd.length 0 out [] = some r := fun out h => by
  obtain ⟨t, rfl, hw, rfl⟩ := part_safe h
  exact ⟨_, lrun_flat t hw⟩
/-- Partners' error -/
theorem part_err {w w' : World} {cd : List RI} {e : Ending} (h : PPost w cd (prun cd cd.length 0 (List.replicate cd.length 0) []) e w') :
    Below w.heap.size w w' ∧ ∃ v at_, e = .returned (.tuple #[v, .int .i64 at_, .int .i64 (if (nestRun cd 0 []).2 then 15 else 0)]) := by
  have hn := prun_nest cd.length 0 (List.replicate cd.length 0) [] [] (prel_init cd) (by omega)
  simp only [List.drop_zero] at hn
  obtain ⟨hb, h⟩ := h
  refine ⟨hb, ?_⟩
  cases hp : prun cd cd.length 0 (List.replicate cd.length 0) [] with
  | error k =>
    rw [hp] at h hn
    rw [hn]
    exact ⟨_, _, h⟩
  | ok x =>
    obtain ⟨out, opn⟩ := x
    rw [hp] at h hn
    simp only at h hn
    rw [hn]
    by_cases h0 : 0 < opn.length
    · rw [if_pos h0] at h
      rw [if_pos (by simpa using h0)]
      exact ⟨_, _, h⟩
    · rw [if_neg h0] at h
      rw [if_neg (by simpa using h0)]
      have : opn = [] := List.eq_nil_of_length_eq_zero (by omega)
      subst this
      obtain ⟨r, hr⟩ := part_lv out hp
      exact ⟨_, _, (h r hr).1⟩
theorem part_good {w w' : World} {t : T} {e : Ending} (hw : t.wf false 8) (h : PPost w t.flat (prun t.flat t.flat.length 0 (List.replicate t.flat.length 0) []) e w') :
    Below w.heap.size w w' ∧ e = .returned (.tuple #[.slice (some ⟨w.heap.size, 0, none⟩) t.flat.length t.flat.length, .int .i64 0, .int .i64 0]) ∧ Blk w' w.heap.size (ints .i64 (t.rq 0 0)) 3 := by
  rw [prun_flat t hw] at h
  obtain ⟨hb, h⟩ := h
  simp only [List.length_nil, Nat.lt_irrefl, if_false] at h
  have := h _ (lrun_flat t hw)
  exact ⟨hb, this.1, this.2⟩

theorem drop_next {α : Type} [Inhabited α] (l : List α) (k : Nat) (hk : k < l.length) : l.drop k = l.getD k default :: l.drop (k + 1) := by
  rw [List.drop_eq_getElem_cons hk, List.getD_eq_getElem?_getD, List.getElem?_eq_getElem hk]; rfl

def RcPost (ars : List Ar) (regs spills : Int) (cd : List RI) (w : World) (e : Ending) (w' : World) : Prop := (∃ at_, e = .returned (.tuple #[.int .i64 at_, .int .i64 (chkCode ars regs spills cd).2])) ∧ Below w.heap.size w w'

set_option maxRecDepth 100000 in
set_option maxHeartbeats 1000000 in
theorem RCheck_any (arsA codeA : Option Addr) (arsC codeC : Nat) (ars : List Ar) (regs spills : Int) (cd : List RI) (w : World)
    (hars : RowB w.heap.size w 2 arsA ars.length fun i j => (ars.getD i default).cell j) (hcd : RowB w.heap.size w 5 codeA cd.length fun i j => (cd.getD i default).cell j)
    (hA : ars.length ≤ 9223372036854775807) (hC : cd.length ≤ 9223372036854775807) (harg : ∀ i ∈ cd, 0 ≤ i.arg ∧ i.arg < 4294967296) :
    Calls Try.prog 31 #[.agg #[.slice arsA ars.length arsC, .int .i64 regs, .int .i64 spills, .slice codeA cd.length codeC]] w (RcPost ars regs spills cd w) := by
  have HARS := Lib.hid hars
  have HCD := Lib.hid hcd
  have HARG := Lib.hid harg
  clear hars hcd harg
  go_enter Try.func31, Try.ntmps31
  go_upto_region 1 with (fail)
  refine wp_gen (fun W => Below w.heap.size w W ∧ Blk W w.heap.size [.slice arsA ars.length arsC, .int .i64 regs, .int .i64 spills, .slice codeA cd.length codeC] 25) ⟨(Below.refl _ _).alloc (Nat.le_refl _) _, heap_new1 _ _⟩ ?_
  rintro W ⟨hbW, kW⟩
  have a0 : W.cell? ⟨w.heap.size, 0, none⟩ = some (.slice arsA ars.length arsC) := kW.cell 0
  have a1 : W.cell? ⟨w.heap.size, 1, none⟩ = some (.int .i64 regs) := kW.cell 1
  have a2 : W.cell? ⟨w.heap.size, 2, none⟩ = some (.int .i64 spills) := kW.cell 2
  have a3 : W.cell? ⟨w.heap.size, 3, none⟩ = some (.slice codeA cd.length codeC) := kW.cell 3
  have l0 : w.heap.size < W.heap.size := kW.lt
  have HW := Lib.hid (And.intro hbW kW)
  clear hbW kW
  by_cases h8 : ars.length ≤ 8
  rotate_left
  · have q : decide ((8 : Int) < (ars.length : Int)) = true := by simp; omega
    have HE := Lib.hid (show (chkCode ars regs spills cd).2 = 6 by unfold chkCode; rw [if_pos (by omega)])
    go_wp2
    refine bodyPost_ret (by simp [results, Try.results31, go_sem]; try rfl) rfl ?_
    exact ⟨⟨0, by rw [HE.out]⟩, HW.out.1⟩
  have q8 : decide ((8 : Int) < (ars.length : Int)) = false := by simp; omega
  go_wp2_with fail
  go_loopw [4, 5] (fun c i wr => ∃ (k : Nat) (n : Int), i = .int .i64 (k : Int) ∧ c = .int .i64 n ∧ k ≤ ars.length ∧ 0 ≤ n ∧ n ≤ 65536 ∧ refArs (ars.drop k) n = refArs ars 0 ∧ wr = W) (fun _ i _ => ars.length - (intOf i).toNat)
  case atStart => exact ⟨0, 0, rfl, rfl, Nat.zero_le _, by omega, by omega, by simp, rfl⟩
  case round =>
    obtain ⟨k, n, rfl, rfl, hkl, hn0, hn1, hra, rfl⟩ := hrel
    by_cases hk : k < ars.length
    · obtain ⟨b, off, rfl, hb, hc⟩ := HARS.out k hk
      have hk' := nat_cast_ltQ hk
      have hbw : b < wr.heap.size := by omega
      obtain ⟨sz, hsz⟩ : ∃ sz, (ars.getD k default).size = sz := ⟨_, rfl⟩
      have hc2 : wr.cell? ⟨b, off + k * 2 + 1, none⟩ = some (.int .i64 sz) := by
        rw [HW.out.1.cell (p := ⟨b, off + k * 2 + 1, none⟩) hb, ← hsz]; exact hc 1 (by omega)
      rw [drop_next ars k hk, refArs, hsz] at hra
      have q : decide ((k : Int) < (ars.length : Int)) = true := by simp; omega
      clear hc hsz
      by_cases hbad : sz < 1 ∨ 65536 - n < sz
      · rw [if_pos hbad] at hra
        have HE := Lib.hid (chk_ars (regs := regs) (spills := spills) (cd := cd) h8 hra.symm)
        clear hra
        by_cases h1 : sz < 1
        · have q1 : decide (sz < 1) = true := by simp; omega
          go_wp2
          refine bodyPost_ret (by simp [results, Try.results31, go_sem]; try rfl) rfl ?_
          exact ⟨⟨0, by rw [HE.out]⟩, HW.out.1⟩
        · have q1 : decide (sz < 1) = false := by simp; omega
          have q2 : decide (65536 - n < sz) = true := by simp; omega
          go_wp2
          refine bodyPost_ret (by simp [results, Try.results31, go_sem]; try rfl) rfl ?_
          exact ⟨⟨0, by rw [HE.out]⟩, HW.out.1⟩
      · rw [if_neg hbad] at hra
        have q1 : decide (sz < 1) = false := by simp; omega
        have q2 : decide (65536 - n < sz) = false := by simp; omega
        have HRA := Lib.hid hra
        clear hra
        go_wp2
        go_roundw
        case rel => exact ⟨k + 1, n + sz, by simp, rfl, hk, by omega, by omega, HRA.out, by first | trivial | rfl⟩
        case measure => simp [intOf]; omega
    have hke : k = ars.length := by omega
    subst hke
    have q : decide ((ars.length : Int) < (ars.length : Int)) = false := by simp
    rw [List.drop_length] at hra
    have HRA := Lib.hid (show refArs ars 0 = false from hra.symm)
    clear hra
    by_cases hr : regs < 0 ∨ 1024 < regs ∨ spills < 0 ∨ 1024 < spills
    · have HE := Lib.hid (chk_regs (cd := cd) h8 hr)
      go_wp2
      all_goals first
        | (refine bodyPost_ret (by simp [results, Try.results31, go_sem]; try rfl) rfl ?_
           exact ⟨⟨0, by rw [HE.out]⟩, HW.out.1⟩)
        | (exfalso; omega)
    have q1 : decide (regs < 0) = false := by simp; omega
    have q2 : decide (1024 < regs) = false := by simp; omega
    have q3 : decide (spills < 0) = false := by simp; omega
    have q4 : decide (1024 < spills) = false := by simp; omega
    have HCK := Lib.hid (chk_rest (cd := cd) h8 HRA.out hr)
    clear hr
    by_cases hlen : 16384 < cd.length
    · have q5 : decide ((16384 : Int) < (cd.length : Int)) = true := by simp; omega
      have HE := Lib.hid (show (chkCode ars regs spills cd).2 = 6 by rw [HCK.out, if_pos hlen])
      go_wp2
      refine bodyPost_ret (by simp [results, Try.results31, go_sem]; try rfl) rfl ?_
      exact ⟨⟨0, by rw [HE.out]⟩, HW.out.1⟩
    have q5 : decide ((16384 : Int) < (cd.length : Int)) = false := by simp; omega
    have hck := HCK.out
    rw [if_neg hlen] at hck
    have HCK2 := Lib.hid hck
    clear hck HCK
    have HPA := Lib.hid (fun Z (hb : Below w.heap.size w Z) => RPartners_any codeA codeC cd Z ((HCD.out.below hb).mono hb.size) (by omega) part_lv)
    go_wp2_with fail
    clear a0 a1 a2 a3
    go_loopw [7] (fun i wz => ∃ k : Nat, i = .int .i64 (k : Int) ∧ k ≤ cd.length ∧ Hid (chkAll regs spills ars.length (cd.drop k) k = chkAll regs spills ars.length cd 0) ∧ Hid (Below wr.heap.size wr wz)) (fun i _ => cd.length - (intOf i).toNat)
    case atStart => exact ⟨0, rfl, Nat.zero_le _, Lib.hid (by simp), Lib.hid (Below.refl _ _)⟩
    case round =>
      obtain ⟨m, rfl, hml, hall, hbz⟩ := hrel
      have hbz' := hbz.out
      have kz := HW.out.2.below hbz' HW.out.2.lt
      have hwz := HW.out.1.trans (hbz'.mono HW.out.1.size)
      have a3 : wr.cell? ⟨w.heap.size, 3, none⟩ = some (.slice codeA cd.length codeC) := kz.cell 3
      have lz : w.heap.size < wr.heap.size := kz.lt
      have HZ := Lib.hid hwz
      have HKZ := Lib.hid kz
      clear kz hwz hbz'
      by_cases hm : m < cd.length
      rotate_left
      · have hme : m = cd.length := by omega
        have qm : decide ((m : Int) < (cd.length : Int)) = false := by simp; omega
        have hall' := hall.out
        rw [hme, List.drop_length, chkAll] at hall'
        have hck := HCK2.out
        rw [← hall'] at hck
        simp only at hck
        have HCK3 := Lib.hid (show (chkCode ars regs spills cd).2 = if (nestRun cd 0 []).2 then 15 else 0 by rw [hck]; split <;> rfl)
        clear hall' hck
        go_wp2_with fail
        refine (HPA.out wr HZ.out).mono ?_
        intro e V hpost
        obtain ⟨hbV, v, at_, rfl⟩ := part_err hpost
        have HV := Lib.hid (HZ.out.trans (hbV.mono HZ.out.size))
        clear hbV hpost
        obtain ⟨x, hx⟩ : ∃ x : Int, (if (nestRun cd 0 []).2 then 15 else 0) = x := ⟨_, rfl⟩
        rw [hx] at HCK3 ⊢
        clear hx
        go_wp2
        refine bodyPost_ret (by simp [results, Try.results31, go_sem]; try rfl) rfl ?_
        exact ⟨⟨at_, by rw [HCK3.out]⟩, HV.out⟩
      have qm : decide ((m : Int) < (cd.length : Int)) = true := by simp; omega
      have a0 : wr.cell? ⟨w.heap.size, 0, none⟩ = some (.slice arsA ars.length arsC) := HKZ.out.cell 0
      have a1 : wr.cell? ⟨w.heap.size, 0 + 1, none⟩ = some (.int .i64 regs) := HKZ.out.cell 1
      have a2 : wr.cell? ⟨w.heap.size, 0 + 1 + 1, none⟩ = some (.int .i64 spills) := HKZ.out.cell 2
      have a3' : wr.cell? ⟨w.heap.size, 0 + 1 + 1 + 1, none⟩ = some (.slice codeA cd.length codeC) := HKZ.out.cell 3
      obtain ⟨b, off, rfl, hb, hc⟩ := HCD.out m hm
      have hm' := nat_cast_ltQ hm
      have hbw : b < wr.heap.size := by omega
      have hc2 : ∀ j, j < 5 → wr.cell? ⟨b, off + m * 5 + j, none⟩ = some ((cd.getD m default).cell j) := fun j hj => by rw [HZ.out.cell (p := ⟨b, off + m * 5 + j, none⟩) hb]; exact hc j hj
      have hin := HARG.out (cd.getD m default) (by rw [List.getD_eq_getElem?_getD, List.getElem?_eq_getElem hm]; exact List.getElem_mem _)
      have hall' := hall.out
      rw [drop_next cd m hm, chkAll] at hall'
      obtain ⟨ins, hins⟩ : ∃ ins, cd.getD m default = ins := ⟨_, rfl⟩
      rw [hins] at hc2 hall' hin
      have HIA := Lib.hid (fun Z => instruction_any arsA (some ⟨b, off, none⟩) ars.length arsC cd.length codeC regs spills ins Z (by omega) hin)
      obtain ⟨op, to, ra, rb, arg⟩ := ins
      have k0 : wr.cell? ⟨b, off + m * 5, none⟩ = some (.int .i64 op) := hc2 0 (by omega)
      have k1 : wr.cell? ⟨b, off + m * 5 + 1, none⟩ = some (.int .i64 to) := hc2 1 (by omega)
      have k2 : wr.cell? ⟨b, off + m * 5 + 1 + 1, none⟩ = some (.int .i64 ra) := hc2 2 (by omega)
      have k3 : wr.cell? ⟨b, off + m * 5 + 1 + 1 + 1, none⟩ = some (.int .i64 rb) := hc2 3 (by omega)
      have k4 : wr.cell? ⟨b, off + m * 5 + 1 + 1 + 1 + 1, none⟩ = some (.int .u32 arg) := hc2 4 (by omega)
      obtain ⟨ce, hce⟩ : ∃ ce, chkI regs spills (ars.length : Int) ⟨op, to, ra, rb, arg⟩ = ce := ⟨_, rfl⟩
      rw [hce] at hall' HIA
      have HALL := Lib.hid hall'
      clear hc hc2 hall' hins hce hall
      go_wp2_with fail
      refine wp_region_keeps [1, 3, 4] [(2, 1), (2, 3), (1, 0), (1, 2), (2, 4), (1, 5), (0, 6), (0, 7)] (by kernel_rfl) (by kernel_rfl) (fun c a d v w h => by cases d <;> exact h) ?_
      simp only [getPlan, List.filterMap_cons, List.filterMap_nil, List.getElem?_toArray, List.getElem?_cons_succ, List.getElem?_cons_zero, Option.map_some]
      repeat ((first | refine wpPlanK_pure (fun K hK => ?_) | refine wpPlanK_float (fun K hK => ?_)); go_simp; refine hK _ ?_; clear hK K)
      clear k0 k1 k2 k3 k4 a0 a1 a2 a3 a3'
      refine wpPlanK_keep ?_
      go_wp2_with fail
      refine (HIA.out wr.drew).mono ?_
      rintro e V ⟨rfl, hbV⟩
      have hbV' : Below wr.heap.size wr V := below_undrew hbV
      have HV := Lib.hid hbV'
      clear hbV hbV'
      go_wp2_with fail
      refine ⟨grew_below HV.out, ?_⟩
      refine wpPlanK_keep ?_
      go_wp2_with fail
      refine ⟨grew_below HV.out, ?_⟩
      refine wpPlanK_nil ?_
      by_cases hce : ce = 0
      · have qc : (ce != 0) = false := by simpa using hce
        have hall2 := HALL.out
        rw [if_neg (by simpa using hce)] at hall2
        have HALL2 := Lib.hid hall2
        clear hall2 hce
        go_wp2
        go_roundw
        case rel => exact ⟨m + 1, by simp, by omega, HALL2, Lib.hid (hbz.out.trans (HV.out.mono hbz.out.size))⟩
        case measure => simp [intOf]; omega
      · have qc : (ce != 0) = true := by simpa using hce
        have hall2 := HALL.out
        rw [if_pos hce] at hall2
        have hck := HCK2.out
        rw [← hall2] at hck
        have HCK3 := Lib.hid (show (chkCode ars regs spills cd).2 = ce by rw [hck])
        clear hall2 hce hck
        go_wp2
        refine bodyPost_ret (by simp [results, Try.results31, go_sem]; try rfl) rfl ?_
        exact ⟨⟨_, by rw [HCK3.out]⟩, HZ.out.trans (HV.out.mono HZ.out.size)⟩
end Go.Proofs.Ytefdnjhhaejgbaa

namespace Go.Proofs.Ytefdnjhhaejgbaa
open Go.RowKit
set_option linter.unusedVariables false

/-- the code and the reference's partners in memory -/
structure RbMem (B : Nat) (w : World) (codeA ptA : Option Addr) (cd : List RI) (pt : List Nat) (rp : List Int) : Prop where
  crow : RowB B w 5 codeA cd.length fun i j => (cd.getD i default).cell j
  prow : RowB B w 1 ptA cd.length fun i _ => .int .i64 (rp.getD i 0)
  ag : AgreeL cd rp pt
theorem RbMem.below {B : Nat} {w w' : World} {codeA ptA : Option Addr} {cd : List RI} {pt : List Nat} {rp : List Int} (h : RbMem B w codeA ptA cd pt rp) (hb : Below B w w') : RbMem B w' codeA ptA cd pt rp := ⟨h.crow.below hb, h.prow.below hb, h.ag⟩
theorem RbMem.mono {B B' : Nat} {w : World} {codeA ptA : Option Addr} {cd : List RI} {pt : List Nat} {rp : List Int} (h : RbMem B w codeA ptA cd pt rp) (hb : B ≤ B') : RbMem B' w codeA ptA cd pt rp := ⟨h.crow.mono hb, h.prow.mono hb, h.ag⟩
theorem RbMem.ins {B : Nat} {w : World} {codeA ptA : Option Addr} {cd : List RI} {pt : List Nat} {rp : List Int} (h : RbMem B w codeA ptA cd pt rp) {k : Nat} (hk : k < cd.length) {i : RI} (hi : cd.getD k default = i) :
    ∃ b off, codeA = some ⟨b, off, none⟩ ∧ b < B ∧ w.cell? ⟨b, off + k * 5, none⟩ = some (.int .i64 i.op) ∧ w.cell? ⟨b, off + k * 5 + 4, none⟩ = some (.int .u32 i.arg) := by
  obtain ⟨b, off, h1, h2, h3⟩ := h.crow k hk
  simp only [hi] at h3
  exact ⟨b, off, h1, h2, h3 0 (by omega), h3 4 (by omega)⟩
theorem RbMem.ptc {B : Nat} {w : World} {codeA ptA : Option Addr} {cd : List RI} {pt : List Nat} {rp : List Int} (h : RbMem B w codeA ptA cd pt rp) {k : Nat} (hk : k < cd.length) {p : Nat} (hp : pt.getD k 0 = p) (ho : (cd.getD k default).op = 27 ∨ (cd.getD k default).op = 28 ∨ (cd.getD k default).op = 29) :
    ∃ b off, ptA = some ⟨b, off, none⟩ ∧ b < B ∧ w.cell? ⟨b, off + k, none⟩ = some (.int .i64 (p : Int)) := by
  obtain ⟨b, off, h1, h2, h3⟩ := h.prow k hk
  refine ⟨b, off, h1, h2, ?_⟩
  have := h3 0 (by omega)
  simp only [Nat.mul_one, Nat.add_zero, h.ag k hk ho, hp] at this
  exact this

theorem ref_loop {n k x : Int} (hn : 0 ≤ n) (hk : 0 ≤ k) (hx : 1 ≤ x) :
    min (if BY / x < k then BY else n + k * x) BY = if 0 < k ∧ 281474976710656 / k < x then 281474976710657 else min (n + k * x) 281474976710657 := by
  unfold BY
  by_cases h0 : 0 < k
  · have e1 : (281474976710656 / k < x) ↔ 281474976710656 < x * k := Int.ediv_lt_iff_lt_mul h0
    have e2 : (281474976710657 / x < k) ↔ 281474976710657 < k * x := Int.ediv_lt_iff_lt_mul (by omega)
    rw [Int.mul_comm] at e1
    by_cases h1 : 281474976710656 / k < x
    · have c2 : 0 < k ∧ 281474976710656 / k < x := ⟨h0, h1⟩
      rw [if_pos c2]
      have := e1.1 h1
      split <;> omega
    · have c2 : ¬ (0 < k ∧ 281474976710656 / k < x) := fun h => h1 h.2
      have h3 : ¬ 281474976710656 < k * x := fun h => h1 (e1.2 h)
      have c1 : ¬ 281474976710657 / x < k := fun h => by have := e2.1 h; omega
      rw [if_neg c2, if_neg c1]
  · have hk0 : k = 0 := by omega
    have c1 : ¬ 281474976710657 / x < k := by
      have : 0 ≤ (281474976710657 : Int) / x := Int.ediv_nonneg (by omega) (by omega)
      omega
    have c2 : ¬ (0 < k ∧ 281474976710656 / k < x) := fun h => h0 h.1
    rw [if_neg c2, if_neg c1]

def RBoundIs (n : Nat) (arsA : Option Addr) (arsL arsC : Nat) (regs spills : Int) (codeC ptC : Nat) (codeA ptA : Option Addr) (cd : List RI) (pt : List Nat) (rp : List Int) : Prop :=
  ∀ (t : T) (k e : Nat) (wi : Bool) (d : Nat) (w : World), t.size < n → k + t.size ≤ cd.length → BdAt cd pt k e t → t.wf wi d → RbMem w.heap.size w codeA ptA cd pt rp →
    Calls Try.prog 36 #[.agg #[.slice arsA arsL arsC, .int .i64 regs, .int .i64 spills, .slice codeA cd.length codeC], .slice ptA cd.length ptC, .int .i64 (k : Int), .int .i64 ((k + t.size : Nat) : Int)] w fun e w' => e = .returned (.int .i64 (t.bd 0)) ∧ Below w.heap.size w w'

theorem RBoundIs.call {n : Nat} {arsA : Option Addr} {arsL arsC : Nat} {regs spills : Int} {codeC ptC : Nat} {codeA ptA : Option Addr} {cd : List RI} {pt : List Nat} {rp : List Int} (h : RBoundIs n arsA arsL arsC regs spills codeC ptC codeA ptA cd pt rp) {w0 : World} (hm : RbMem w0.heap.size w0 codeA ptA cd pt rp) {a : T} {k q e : Nat} {wi : Bool} {d : Nat} (hn : a.size < n) (hk : k + 1 + a.size ≤ cd.length)
    (hb : BdAt cd pt (k + 1) e a) (hw : a.wf wi d) (hq : q = k + 1 + a.size) (w : World) (hbw : Below w0.heap.size w0 w) :
    Calls Try.prog 36 #[.agg #[.slice arsA arsL arsC, .int .i64 regs, .int .i64 spills, .slice codeA cd.length codeC], .slice ptA cd.length ptC, .int .i64 ((k : Int) + 1), .int .i64 (q : Int)] w fun e w' => e = .returned (.int .i64 (a.bd 0)) ∧ Below w.heap.size w w' := by
  subst hq
  exact h a (k + 1) e wi d w hn hk hb hw ((hm.below hbw).mono hbw.size)

set_option maxRecDepth 100000 in
set_option maxHeartbeats 1000000 in
theorem rbound_any (arsA : Option Addr) (arsL arsC : Nat) (regs spills : Int) (codeC ptC : Nat) (codeA ptA : Option Addr) (cd : List RI) (pt : List Nat) (rp : List Int) (hl : pt.length = cd.length) (hmax : cd.length ≤ 16384) (harg : ∀ i ∈ cd, 0 ≤ i.arg ∧ i.arg < 4294967296) : ∀ n, RBoundIs n arsA arsL arsC regs spills codeC ptC codeA ptA cd pt rp := by
  intro n
  induction n with
  | zero => intro t k e wi d w h; omega
  | succ n ih =>
    intro t k e wi d w0 htn hkn hbd hwf hmem0
    have HI := Lib.hid ih
    have HA := Lib.hid harg
    obtain ⟨res, hres⟩ : ∃ res, t.bd 0 = res := ⟨_, rfl⟩
    rw [hres]
    have hst : ∀ w, BdRel cd pt (k + t.size) res w (.int .i64 0) (.int .i64 (k : Int)) w := fun w => ⟨k, 0, t, e, wi, d, rfl, rfl, rfl, hbd, hwf, hres, by omega, by unfold BY; omega, Below.refl _ _⟩
    have HST := Lib.hid hst
    have HLL := Lib.hid hl
    have HM0 := Lib.hid hmem0
    obtain ⟨hi, hhi⟩ : ∃ hi, k + t.size = hi := ⟨_, rfl⟩
    rw [hhi] at HST hkn ⊢
    have htn' : ∀ r : T, ∀ k', k ≤ k' → k' + r.size = hi → r.size ≤ t.size := fun r k' h1 h2 => by omega
    clear ih hmem0 harg hbd hwf hst hl hres
    go_enter Try.func36, Try.ntmps36
    go_upto_region 1 with (fail)
    refine wp_gen (fun W => Below w0.heap.size w0 W ∧ Blk W w0.heap.size [.slice arsA arsL arsC, .int .i64 regs, .int .i64 spills, .slice codeA cd.length codeC] 25) ⟨(Below.refl _ _).alloc (Nat.le_refl _) _, heap_new1 _ _⟩ ?_
    rintro w ⟨hbw0, kbox⟩
    have HM := Lib.hid ((HM0.out.below hbw0).mono hbw0.size)
    have HBX := Lib.hid (And.intro hbw0 kbox)
    have lbox : w0.heap.size < w.heap.size := kbox.lt
    clear hbw0 kbox HM0
    go_wp2_with fail
    go_loopw [9, 10] (fun n i wr => BdRel cd pt hi res w n i wr ∧ (k : Int) ≤ intOf i) (fun _ i _ => hi - (intOf i).toNat)
    case atStart => exact ⟨HST.out w, by simp [intOf]⟩
    case round =>
      obtain ⟨⟨k', acc, r, e', wi', d', rfl, rfl, hsz, hbd, hwf, hres, ha0, ha1, hbel⟩, hkk⟩ := hrel
      have hkk' : k ≤ k' := by simp [intOf] at hkk; omega
      have hrt := htn' r k' hkk' hsz
      clear HST hkk
      have hmr := HM.out.below hbel
      have hba : acc ≤ 281474976710657 := ha1
      have kbx := HBX.out.2.below hbel lbox
      have x3 : wr.cell? ⟨w0.heap.size, 3, none⟩ = some (.slice codeA cd.length codeC) := kbx.cell 3
      have lwr : w0.heap.size < wr.heap.size := kbx.lt
      have HKB := Lib.hid kbx
      clear kbx
      cases r with
      | nil =>
        simp only [T.size, Nat.add_zero] at hsz
        subst hsz
        simp only [T.bd] at hres
        subst hres
        have HB := Lib.hid hbel
        clear hbel hmr hbd hwf hrt
        go_wp2
        go_ret
        exact ⟨rfl, HBX.out.1.trans (HB.out.mono (by omega))⟩
      | plain i r =>
        have hsz' : k' + (r.size + 1) = hi := hsz
        have hk' : k' < cd.length := by omega
        obtain ⟨b, off, rfl, hb, c0, c4⟩ := hmr.ins hk' hbd.cd.head
        have hbw : b < wr.heap.size := Nat.lt_of_lt_of_le hb hbel.size
        have hkI : (0 : Int) ≤ (k' : Int) ∧ (k' : Int) < (cd.length : Int) ∧ (k' : Int) < (hi : Int) := by omega
        have q27 : (i.op == 27) = false := by simpa using hwf.1.1
        have q29 : (i.op == 29) = false := by simpa using hwf.1.2.2.1
        have HX := Lib.hid (show BdRel cd pt hi res w (.int .i64 (min (acc + 1) 281474976710657)) (.int .i64 ((k' : Int) + 1)) wr from
          ⟨k' + 1, _, r, e', wi', d', by simp, rfl, by omega, hbd.plainR, hwf.2.2, hres, by omega, by unfold BY; omega, hbel⟩)
        clear hbd hwf hres hbel hmr hrt hsz hsz'
        go_wp2
        go_roundw
        case rel => exact ⟨by first | exact HX.out | (rw [if_min]; exact HX.out), by simp [intOf]; omega⟩
        case measure => simp [intOf]; omega
      | ite i a j r =>
        have hsz' : k' + (a.size + r.size + 2) = hi := hsz
        have hk' : k' < cd.length := by omega
        obtain ⟨hba', hbr, hpk, hcj⟩ := hbd.iteA
        obtain ⟨q, hq⟩ : ∃ q, q = k' + 1 + a.size := ⟨_, rfl⟩
        have hqe : k' + a.size + 1 = q := by omega
        rw [hqe] at hpk hcj
        obtain ⟨b, off, rfl, hb, c0, c4⟩ := hmr.ins hk' hbd.cd.head
        obtain ⟨b2, off2, rfl, hb2, p0⟩ := hmr.ptc hk' hpk (.inl (by rw [hbd.cd.head]; exact hwf.1))
        have hqn : q < cd.length := by omega
        obtain ⟨b3, off3, hb3, _, j0, _⟩ := hmr.ins hqn hcj
        simp only [Option.some.injEq, Addr.mk.injEq] at hb3
        obtain ⟨rfl, rfl, _⟩ := hb3
        have hbw : b < wr.heap.size := Nat.lt_of_lt_of_le hb hbel.size
        have hbw2 : b2 < wr.heap.size := Nat.lt_of_lt_of_le hb2 hbel.size
        have hkI : (0 : Int) ≤ (k' : Int) ∧ (k' : Int) < (cd.length : Int) ∧ (k' : Int) < (hi : Int) := by omega
        have hqI : (0 : Int) ≤ (q : Int) ∧ (q : Int) < (cd.length : Int) := by omega
        have q27 : (i.op == 27) = true := by simpa using hwf.1
        have q28 : (j.op == 28) = false := by rw [hwf.2.1]; rfl
        have hra := T.bd_range True a 0 (flat_arg HA.out hba'.cd (by omega)) (by unfold BY; omega)
        have hCA := HI.out.call HM.out (w0 := w) (a := a) (k := k') (q := q) (by simp only [T.size] at hrt; omega) (by omega) hba' hwf.2.2.2.1 hq
        obtain ⟨xa, hxa⟩ : ∃ xa, a.bd 0 = xa := ⟨_, rfl⟩
        rw [hxa] at hCA hra
        simp only [T.bd, hxa] at hres
        have hra1 : 0 ≤ xa ∧ xa ≤ 281474976710657 := hra
        have HX := Lib.hid (show ∀ wz, Below w.heap.size w wz → BdRel cd pt hi res w (.int .i64 (min (acc + 1 + max xa 0) 281474976710657)) (.int .i64 ((q : Int) + 1)) wz from fun wz hz =>
          ⟨q + 1, _, r, e', wi', d', by simp, rfl, by omega, by rw [show q + 1 = k' + a.size + 2 by omega]; exact hbr, hwf.2.2.2.2, hres, by omega, by unfold BY; omega, hz⟩)
        have HC := Lib.hid hCA
        have HB := Lib.hid hbel
        have hkq : k' < q ∧ q < hi := by omega
        have x0 : wr.cell? ⟨w0.heap.size, 0, none⟩ = some (.slice arsA arsL arsC) := HKB.out.cell 0
        have x1 : wr.cell? ⟨w0.heap.size, 0 + 1, none⟩ = some (.int .i64 regs) := HKB.out.cell 1
        have x2 : wr.cell? ⟨w0.heap.size, 0 + 1 + 1, none⟩ = some (.int .i64 spills) := HKB.out.cell 2
        have x3' : wr.cell? ⟨w0.heap.size, 0 + 1 + 1 + 1, none⟩ = some (.slice (some ⟨b, off, none⟩) cd.length codeC) := HKB.out.cell 3
        clear hbd hwf hres hbel hmr hrt hsz hsz' hCA hpk hcj hxa hba' hbr hra hqe hq
        go_wp2_with fail
        refine (HC.out _ HB.out).mono ?_
        rintro e X ⟨rfl, hbX⟩
        have hwX : Below w.heap.size w X := HB.out.trans (hbX.mono HB.out.size)
        have HWX := Lib.hid hwX
        clear hbX hwX x0 x1 x2 x3 x3' c0 c4 p0 j0
        go_wp2
        go_roundw
        case rel => exact ⟨by first | exact HX.out _ HWX.out | (rw [if_min]; exact HX.out _ HWX.out) | (rw [if_max, if_min]; exact HX.out _ HWX.out), by simp [intOf]; omega⟩
        case measure => simp [intOf]; omega
      | ite2 i a x b3 j r =>
        have hsz' : k' + (a.size + b3.size + r.size + 3) = hi := hsz
        have hk' : k' < cd.length := by omega
        obtain ⟨hba', hbb', hbr, hpk, hpx, hcx⟩ := hbd.ite2A
        obtain ⟨q, hq⟩ : ∃ q, q = k' + 1 + a.size := ⟨_, rfl⟩
        obtain ⟨q2, hq2⟩ : ∃ q2, q2 = q + 1 + b3.size := ⟨_, rfl⟩
        have hqe : k' + a.size + 1 = q := by omega
        have hqe2 : k' + a.size + b3.size + 2 = q2 := by omega
        have hqe3 : k' + a.size + 2 = q + 1 := by omega
        rw [hqe] at hpk hpx hcx
        rw [hqe2] at hpx
        rw [hqe3] at hbb'
        obtain ⟨b, off, rfl, hb, c0, c4⟩ := hmr.ins hk' hbd.cd.head
        obtain ⟨b2, off2, rfl, hb2, p0⟩ := hmr.ptc hk' hpk (.inl (by rw [hbd.cd.head]; exact hwf.1))
        have hqn : q < cd.length := by omega
        obtain ⟨b4, off4, hb4, _, j0, _⟩ := hmr.ins hqn hcx
        simp only [Option.some.injEq, Addr.mk.injEq] at hb4
        obtain ⟨rfl, rfl, _⟩ := hb4
        obtain ⟨b5, off5, hb5, _, p1⟩ := hmr.ptc hqn hpx (.inr (.inl (by rw [hcx]; exact hwf.2.1)))
        simp only [Option.some.injEq, Addr.mk.injEq] at hb5
        obtain ⟨rfl, rfl, _⟩ := hb5
        have hbw : b < wr.heap.size := Nat.lt_of_lt_of_le hb hbel.size
        have hbw2 : b2 < wr.heap.size := Nat.lt_of_lt_of_le hb2 hbel.size
        have hkI : (0 : Int) ≤ (k' : Int) ∧ (k' : Int) < (cd.length : Int) ∧ (k' : Int) < (hi : Int) := by omega
        have hqI : (0 : Int) ≤ (q : Int) ∧ (q : Int) < (cd.length : Int) := by omega
        have q27 : (i.op == 27) = true := by simpa using hwf.1
        have q28 : (x.op == 28) = true := by rw [hwf.2.1]; rfl
        have hra := T.bd_range True a 0 (flat_arg HA.out hba'.cd (by omega)) (by unfold BY; omega)
        have hrb := T.bd_range True b3 0 (flat_arg HA.out hbb'.cd (by omega)) (by unfold BY; omega)
        have hCA := HI.out.call HM.out (w0 := w) (a := a) (k := k') (q := q) (by simp only [T.size] at hrt; omega) (by omega) hba' hwf.2.2.2.2.1 hq
        have hCB := HI.out.call HM.out (w0 := w) (a := b3) (k := q) (q := q2) (by simp only [T.size] at hrt; omega) (by omega) hbb' hwf.2.2.2.2.2.1 hq2
        obtain ⟨xa, hxa⟩ : ∃ xa, a.bd 0 = xa := ⟨_, rfl⟩
        obtain ⟨xb, hxb⟩ : ∃ xb, b3.bd 0 = xb := ⟨_, rfl⟩
        rw [hxa] at hCA hra
        rw [hxb] at hCB hrb
        simp only [T.bd, hxa, hxb] at hres
        have hra1 : 0 ≤ xa ∧ xa ≤ 281474976710657 := hra
        have hrb1 : 0 ≤ xb ∧ xb ≤ 281474976710657 := hrb
        have HX := Lib.hid (show ∀ wz, Below w.heap.size w wz → BdRel cd pt hi res w (.int .i64 (min (acc + 1 + max xa xb) 281474976710657)) (.int .i64 ((q2 : Int) + 1)) wz from fun wz hz =>
          ⟨q2 + 1, _, r, e', wi', d', by simp, rfl, by omega, by rw [show q2 + 1 = k' + a.size + b3.size + 3 by omega]; exact hbr, hwf.2.2.2.2.2.2, hres, by omega, by unfold BY; omega, hz⟩)
        have HC := Lib.hid hCA
        have HC2 := Lib.hid hCB
        have HB := Lib.hid hbel
        have hkq : k' < q ∧ q < q2 ∧ q2 < hi := by omega
        have hqq : decide ((q : Int) < (q2 : Int)) = true := by simp; omega
        have x0 : wr.cell? ⟨w0.heap.size, 0, none⟩ = some (.slice arsA arsL arsC) := HKB.out.cell 0
        have x1 : wr.cell? ⟨w0.heap.size, 0 + 1, none⟩ = some (.int .i64 regs) := HKB.out.cell 1
        have x2 : wr.cell? ⟨w0.heap.size, 0 + 1 + 1, none⟩ = some (.int .i64 spills) := HKB.out.cell 2
        have x3' : wr.cell? ⟨w0.heap.size, 0 + 1 + 1 + 1, none⟩ = some (.slice (some ⟨b, off, none⟩) cd.length codeC) := HKB.out.cell 3
        clear hbd hwf hres hbel hmr hrt hsz hsz' hCA hCB hpk hpx hcx hxa hxb hba' hbb' hbr hra hrb hqe hqe2 hqe3 hq hq2
        go_wp2_with fail
        refine (HC.out _ HB.out).mono ?_
        rintro e X ⟨rfl, hbX⟩
        have hwX : Below w.heap.size w X := HB.out.trans (hbX.mono HB.out.size)
        have HWX := Lib.hid hwX
        have kX := HKB.out.below hbX lwr
        clear hbX hwX x0 x1 x2 x3 x3' c0 c4 p0 j0
        have x0 : X.cell? ⟨w0.heap.size, 0, none⟩ = some (.slice arsA arsL arsC) := kX.cell 0
        have x1 : X.cell? ⟨w0.heap.size, 0 + 1, none⟩ = some (.int .i64 regs) := kX.cell 1
        have x2 : X.cell? ⟨w0.heap.size, 0 + 1 + 1, none⟩ = some (.int .i64 spills) := kX.cell 2
        have x3 : X.cell? ⟨w0.heap.size, 0 + 1 + 1 + 1, none⟩ = some (.slice (some ⟨b, off, none⟩) cd.length codeC) := kX.cell 3
        clear kX
        go_wp2_with fail
        refine (HC2.out X HWX.out).mono ?_
        rintro e Y ⟨rfl, hbY⟩
        have hwY : Below w.heap.size w Y := HWX.out.trans (hbY.mono HWX.out.size)
        have HWY := Lib.hid hwY
        clear hbY hwY x0 x1 x2 x3
        go_wp2
        go_roundw
        case rel => exact ⟨by first | exact HX.out _ HWY.out | (rw [if_min]; exact HX.out _ HWY.out) | (rw [if_max, if_min]; exact HX.out _ HWY.out), by simp [intOf]; omega⟩
        case measure => simp [intOf]; omega
      | loop i a j r =>
        have hsz' : k' + (a.size + r.size + 2) = hi := hsz
        have hk' : k' < cd.length := by omega
        obtain ⟨hba', hbr, hpk⟩ := hbd.loopA
        obtain ⟨q, hq⟩ : ∃ q, q = k' + 1 + a.size := ⟨_, rfl⟩
        have hqe : k' + a.size + 1 = q := by omega
        rw [hqe] at hpk
        obtain ⟨b, off, rfl, hb, c0, c4⟩ := hmr.ins hk' hbd.cd.head
        obtain ⟨b2, off2, rfl, hb2, p0⟩ := hmr.ptc hk' hpk (.inr (.inr (by rw [hbd.cd.head]; exact hwf.1)))
        have hbw : b < wr.heap.size := Nat.lt_of_lt_of_le hb hbel.size
        have hbw2 : b2 < wr.heap.size := Nat.lt_of_lt_of_le hb2 hbel.size
        have hkI : (0 : Int) ≤ (k' : Int) ∧ (k' : Int) < (cd.length : Int) ∧ (k' : Int) < (hi : Int) := by omega
        have q27 : (i.op == 27) = false := by rw [hwf.1]; rfl
        have q29 : (i.op == 29) = true := by rw [hwf.1]; rfl
        have hai := HA.out i (by
          have := hbd.cd.head
          rw [← this, List.getD_eq_getElem?_getD, List.getElem?_eq_getElem hk']; exact List.getElem_mem hk')
        have hra := T.bd_range True a 0 (flat_arg HA.out hba'.cd (by omega)) (by unfold BY; omega)
        have hCA := HI.out.call HM.out (w0 := w) (a := a) (k := k') (q := q) (by simp only [T.size] at hrt; omega) (by omega) hba' hwf.2.2.2.1 hq
        obtain ⟨xa, hxa⟩ : ∃ xa, a.bd 0 = xa := ⟨_, rfl⟩
        rw [hxa] at hCA hra
        simp only [T.bd, hxa] at hres
        have hra1 : 0 ≤ xa ∧ xa ≤ 281474976710657 := hra
        have hkq : k' < q ∧ q < hi := by omega
        rw [ref_loop (n := acc + 1) (k := i.arg) (x := 1 + xa) (by omega) hai.1 (by omega)] at hres
        have HX := Lib.hid (show ∀ (m : Int) wz, (if 0 < i.arg ∧ 281474976710656 / i.arg < 1 + xa then 281474976710657 else min (acc + 1 + i.arg * (1 + xa)) 281474976710657) = m → 0 ≤ m → m ≤ BY → Below w.heap.size w wz → BdRel cd pt hi res w (.int .i64 m) (.int .i64 ((q : Int) + 1)) wz from fun m wz hm h0 h1 hz =>
          ⟨q + 1, m, r, e', wi', d', by simp, rfl, by omega, by rw [show q + 1 = k' + a.size + 2 by omega]; exact hbr, hwf.2.2.2.2, by rw [← hm]; exact hres, h0, h1, hz⟩)
        have HC := Lib.hid hCA
        have HB := Lib.hid hbel
        have HJ := Lib.hid (And.intro p0 c4)
        have x0 : wr.cell? ⟨w0.heap.size, 0, none⟩ = some (.slice arsA arsL arsC) := HKB.out.cell 0
        have x1 : wr.cell? ⟨w0.heap.size, 0 + 1, none⟩ = some (.int .i64 regs) := HKB.out.cell 1
        have x2 : wr.cell? ⟨w0.heap.size, 0 + 1 + 1, none⟩ = some (.int .i64 spills) := HKB.out.cell 2
        have x3' : wr.cell? ⟨w0.heap.size, 0 + 1 + 1 + 1, none⟩ = some (.slice (some ⟨b, off, none⟩) cd.length codeC) := HKB.out.cell 3
        clear hbd hwf hres hbel hmr hrt hsz hsz' hCA hpk hxa hba' hbr hra hqe hq
        go_wp2_with fail
        refine wp_region_keeps [1, 2, 3, 4, 5, 6] [(2, 1), (2, 2), (2, 3), (2, 4), (2, 5), (2, 6), (1, 0), (1, 7), (0, 8), (0, 9), (0, 10)] (by kernel_rfl) (by kernel_rfl) (fun c a d v w h => by cases d <;> exact h) ?_
        simp only [getPlan, List.filterMap_cons, List.filterMap_nil, List.getElem?_toArray, List.getElem?_cons_succ, List.getElem?_cons_zero, Option.map_some]
        repeat ((first | refine wpPlanK_pure (fun K hK => ?_) | refine wpPlanK_float (fun K hK => ?_)); go_simp; refine hK _ ?_; clear hK K)
        clear x0 x1 x2 x3 x3' c0
        refine wpPlanK_keep ?_
        go_wp2_with fail
        refine (HC.out wr.drew HB.out.drew).mono ?_
        rintro e X ⟨rfl, hbX0⟩
        have hbX : Below wr.heap.size wr X := below_undrew hbX0
        have hwX : Below w.heap.size w X := HB.out.trans (hbX.mono HB.out.size)
        have kX := HKB.out.below hbX lwr
        have x3 : X.cell? ⟨w0.heap.size, 3, none⟩ = some (.slice (some ⟨b, off, none⟩) cd.length codeC) := kX.cell 3
        have c4 : X.cell? ⟨b, off + k' * 5 + 4, none⟩ = some (.int .u32 i.arg) := by rw [hbX.cell (p := ⟨b, off + k' * 5 + 4, none⟩) hbw]; exact HJ.out.2
        have p0 : X.cell? ⟨b2, off2 + k', none⟩ = some (.int .i64 (q : Int)) := by rw [hbX.cell (p := ⟨b2, off2 + k', none⟩) hbw2]; exact HJ.out.1
        have HWX := Lib.hid (And.intro hwX hbX)
        clear hbX hwX hbX0 kX
        go_wp2_with fail
        refine ⟨grew_below HWX.out.2, ?_⟩
        refine wpPlanK_keep ?_
        go_wp2_with fail
        refine ⟨grew_below HWX.out.2, ?_⟩
        refine wpPlanK_keep ?_
        go_wp2_with fail
        refine ⟨grew_below HWX.out.2, ?_⟩
        refine wpPlanK_nil ?_
        by_cases h0 : 0 < i.arg
        · have q0 : decide (0 < i.arg) = true := by simp; omega
          by_cases hgt : 281474976710656 / i.arg < 1 + xa
          · have HX1 := Lib.hid (HX.out 281474976710657 X (by rw [if_pos ⟨h0, hgt⟩]) (by omega) (by unfold BY; omega) HWX.out.1)
            have qg : decide (281474976710656 / i.arg < 1 + xa) = true := by simpa using hgt
            go_wp2
            go_roundw
            case rel => exact ⟨HX1.out, by simp [intOf]; omega⟩
            case measure => simp [intOf]; omega
          · have hm1 : i.arg * (1 + xa) ≤ 281474976710656 := by
              have e1 : (281474976710656 / i.arg < 1 + xa) ↔ 281474976710656 < (1 + xa) * i.arg := Int.ediv_lt_iff_lt_mul h0
              rw [Int.mul_comm] at e1
              exact Int.not_lt.1 fun h => hgt (e1.2 h)
            have hm0 : 0 ≤ i.arg * (1 + xa) := Int.mul_nonneg hai.1 (by omega)
            obtain ⟨mm, hmm⟩ : ∃ mm, i.arg * (1 + xa) = mm := ⟨_, rfl⟩
            rw [hmm] at hm0 hm1
            have HX1 := Lib.hid (HX.out (min (acc + 1 + mm) 281474976710657) X (by rw [if_neg (fun h => hgt h.2), hmm]) (by omega) (by unfold BY; omega) HWX.out.1)
            have HMM := Lib.hid hmm
            have qg : decide (281474976710656 / i.arg < 1 + xa) = false := by simpa using hgt
            go_wp2
            go_roundw
            case rel => exact ⟨by first | exact HX1.out | (rw [HMM.out]; exact HX1.out) | (rw [if_min]; exact HX1.out) | (rw [HMM.out, if_min]; exact HX1.out), by simp [intOf]; omega⟩
            case measure => simp [intOf]; omega
        · have q0 : decide (0 < i.arg) = false := by simp; omega
          have hz : i.arg = 0 := by omega
          have HX1 := Lib.hid (HX.out (min (acc + 1) 281474976710657) X (by rw [if_neg (fun h => h0 h.1), hz]; simp) (by omega) (by unfold BY; omega) HWX.out.1)
          rw [hz] at c4
          clear q0 h0 hai
          go_wp2
          go_roundw
          case rel => exact ⟨by first | exact HX1.out | (rw [if_min]; exact HX1.out), by simp [intOf]; omega⟩
          case measure => simp [intOf]; omega
end Go.Proofs.Ytefdnjhhaejgbaa

namespace Go.Proofs.Ytefdnjhhaejgbaa
open Go.RowKit
set_option linter.unusedVariables false

set_option maxRecDepth 100000 in
set_option maxHeartbeats 1000000 in
theorem RStart_any (arsA codeA : Option Addr) (arsC codeC : Nat) (ars : List Ar) (regs spills : Int) (cd : List RI) (w : World) (hars : RowB w.heap.size w 2 arsA ars.length fun i j => (ars.getD i default).cell j)
    (hcd : RowB w.heap.size w 5 codeA cd.length fun i j => (cd.getD i default).cell j) (hA : ars.length ≤ 9223372036854775807) (hC : cd.length ≤ 9223372036854775807) (harg : ∀ i ∈ cd, 0 ≤ i.arg ∧ i.arg < 4294967296) :
    Calls Try.prog 12 #[.agg #[.slice arsA ars.length arsC, .int .i64 regs, .int .i64 spills, .slice codeA cd.length codeC]] w (StartPost ars regs spills cd w) := by
  have HARS := Lib.hid hars
  have HCD := Lib.hid hcd
  have HARG := Lib.hid harg
  clear hars hcd harg
  have hb : Below w.heap.size w ((w.alloc (.cells #[.slice arsA ars.length arsC, .int .i64 regs, .int .i64 spills, .slice codeA cd.length codeC] 25)).alloc (.cells #[.slice none 0 0, .slice none 0 0] 31)) := ((Below.refl _ _).alloc (by simp) _).alloc (by simp) _
  have hk1 : ((w.alloc (.cells #[.slice arsA ars.length arsC, .int .i64 regs, .int .i64 spills, .slice codeA cd.length codeC] 25)).alloc (.cells #[.slice none 0 0, .slice none 0 0] 31)).heap[w.heap.size]? = some (.cells #[.slice arsA ars.length arsC, .int .i64 regs, .int .i64 spills, .slice codeA cd.length codeC] 25) := by
    rw [Below.heap_alloc _ _ _ (by simp)]; exact heap_new1 _ _
  have HB := Lib.hid (And.intro hb (And.intro hk1 (heap_new2 w (.cells #[.slice arsA ars.length arsC, .int .i64 regs, .int .i64 spills, .slice codeA cd.length codeC] 25) (.cells #[.slice none 0 0, .slice none 0 0] 31))))
  clear hb hk1
  go_enter Try.func12, Try.ntmps12
  go_upto_region 1 with (fail)
  refine wp_gen (fun W => Below w.heap.size w W ∧ Blk W w.heap.size [.slice arsA ars.length arsC, .int .i64 regs, .int .i64 spills, .slice codeA cd.length codeC] 25 ∧ Blk W (w.heap.size + 1) [.slice none 0 0, .slice none 0 0] 31) HB.out ?_
  rintro W ⟨hbW, hbk, hres⟩
  clear HB
  have a0 : W.cell? ⟨w.heap.size, 0, none⟩ = some (.slice arsA ars.length arsC) := hbk.cell 0
  have a1 : W.cell? ⟨w.heap.size, 0 + 1, none⟩ = some (.int .i64 regs) := hbk.cell 1
  have a2 : W.cell? ⟨w.heap.size, 0 + 1 + 1, none⟩ = some (.int .i64 spills) := hbk.cell 2
  have a3 : W.cell? ⟨w.heap.size, 0 + 1 + 1 + 1, none⟩ = some (.slice codeA cd.length codeC) := hbk.cell 3
  have HCH := Lib.hid (RCheck_any arsA codeA arsC codeC ars regs spills cd W ((HARS.out.below hbW).mono hbW.size) ((HCD.out.below hbW).mono hbW.size) hA hC HARG.out)
  have hWl := hres.lt
  have HW := Lib.hid (And.intro hbW (And.intro hbk hres))
  clear hbW hbk hres
  obtain ⟨ce, hce⟩ : ∃ ce, chkCode ars regs spills cd = ce := ⟨_, rfl⟩
  have HCE := Lib.hid hce
  clear hce
  by_cases hz : ce.2 = 0
  · have G := chk_good (ars := ars) (regs := regs) (spills := spills) (cd := cd) (by rw [HCE.out]; exact hz)
    have HZ := Lib.hid hz
    have HG := Lib.hid G
    clear hz G
    go_wp2_with fail
    refine HCH.out.mono ?_
    rintro e Y ⟨⟨at_, he⟩, hbY⟩
    rw [HCE.out, HZ.out] at he
    subst he
    have y0 : Y.cell? ⟨w.heap.size, 0, none⟩ = some (.slice arsA ars.length arsC) := by rw [hbY.cell (p := ⟨w.heap.size, 0, none⟩) (by show w.heap.size < W.heap.size; omega)]; exact a0
    have hYl : w.heap.size + 1 < Y.heap.size := by have := hbY.size; omega
    have hwY : Below w.heap.size w Y := HW.out.1.trans (hbY.mono HW.out.1.size)
    have hres : Blk Y (w.heap.size + 1) [.slice none 0 0, .slice none 0 0] 31 := HW.out.2.2.below hbY hWl
    have HST := Lib.hid (zero_any arsA arsC ars Y ((HARS.out.below hwY).mono hwY.size) HG.out.hnA HG.out.hars)
    have HY := Lib.hid (And.intro hwY hres)
    clear hbY hwY hres a0 a1 a2 a3
    go_wp2_with fail
    refine HST.out.mono ?_
    rintro e X ⟨v, τ, ab, ac, cb, cc, rfl, hgo, hcx, tcb, hcb, hbX⟩
    obtain ⟨va, vc, rfl⟩ := grid_slice' hgo
    have hresX : Blk X (w.heap.size + 1) [.slice none 0 0, .slice none 0 0] 31 := HY.out.2.below hbX hYl
    have z0 : X.cell? ⟨w.heap.size + 1, 0, none⟩ = some (.slice none 0 0) := hresX.cell 0
    have z1 : X.cell? ⟨w.heap.size + 1, 0 + 1, none⟩ = some (.slice none 0 0) := hresX.cell 1
    have f0 := hresX.frozen 0
    have f1 := hresX.frozen (0 + 1)
    have hzl : (zeros ars).length = ars.length := by simp [zeros]
    have HX := Lib.hid (And.intro hgo (And.intro hcx (And.intro hcb (And.intro hbX (And.intro hresX hzl)))))
    clear hgo hcx hcb hbX hresX hzl tcb
    go_wp2
    refine bodyPost_ret (v := .tuple #[.agg #[.slice va (zeros ars).length vc, .slice (some ⟨cb, 0, none⟩) (List.replicate 16 (0 : Int)).length cc], .int .i64 0]) ?_ rfl ?_
    · have e0 := (HX.out.2.2.2.2.1.set 0 (.slice va (zeros ars).length vc)).set 1 (.slice (some ⟨cb, 0, none⟩) (List.replicate 16 (0 : Int)).length cc)
      have x0 := e0.cell 0
      have x1 := e0.cell 1
      simp only [List.set_cons_zero, List.set_cons_succ, List.getElem?_cons_zero, List.getElem?_cons_succ] at x0 x1
      simp [results, Try.results12, go_sem] at x0 x1 ⊢
      simp [x0, x1]
    · obtain ⟨hgo, ⟨t9, ht9⟩, hcb, hbX, hresX, hzl⟩ := HX.out
      have hx : w.heap.size ≤ w.heap.size + 1 := by omega
      refine ⟨((HY.out.1.trans (hbX.mono HY.out.1.size)).setCell hx _).setCell hx _, ?_⟩
      rw [if_pos (by rw [HCE.out, HZ.out])]
      have same : ∀ (w2 : World), (∀ k, w.heap.size ≤ k → w2.heap[k]? = ((X.setCell ⟨w.heap.size + 1, 0, none⟩ (.slice va (zeros ars).length vc)).setCell ⟨w.heap.size + 1, 1, none⟩ (.slice (some ⟨cb, 0, none⟩) 16 cc)).heap[k]?) → ∀ k, Y.heap.size ≤ k → w2.heap[k]? = X.heap[k]? := fun w2 h2 k hk => by
        have hne : k ≠ w.heap.size + 1 := by omega
        rw [h2 k (by omega), Below.heap_setCell _ _ _ _ hne, Below.heap_setCell _ _ _ _ hne]
      refine ⟨_, rfl, fun w2 h2 => ⟨va, vc, some ⟨cb, 0, none⟩, cc, rfl, ?_, cb, 0, rfl, fun j hj => ?_⟩⟩
      · exact (hgo.above (same w2 h2)).at rfl
      · have ht2 : Blk w2 cb (ints .u32 (List.replicate 16 0) ++ t9) 42 := by unfold Blk; rw [same w2 h2 cb hcb]; exact ht9
        rw [Nat.zero_add]
        exact (ht2.cell j).trans (ints_get_app hj)
  · have hne : (ce.2 != 0) = true := by simpa using hz
    have HZ := Lib.hid hz
    clear hz
    go_wp2_with fail
    refine HCH.out.mono ?_
    rintro e Y ⟨⟨at_, he⟩, hbY⟩
    rw [HCE.out] at he
    subst he
    have hYl : w.heap.size + 1 < Y.heap.size := by have := hbY.size; omega
    have hres : Blk Y (w.heap.size + 1) [.slice none 0 0, .slice none 0 0] 31 := HW.out.2.2.below hbY hWl
    have z0 : Y.cell? ⟨w.heap.size + 1, 0, none⟩ = some (.slice none 0 0) := hres.cell 0
    have z1 : Y.cell? ⟨w.heap.size + 1, 0 + 1, none⟩ = some (.slice none 0 0) := hres.cell 1
    have f0 := hres.frozen 0
    have f1 := hres.frozen (0 + 1)
    have HY := Lib.hid (And.intro hbY hres)
    clear hbY hres
    go_wp2
    refine bodyPost_ret (v := .tuple #[zeroMemV, .int .i64 ce.2]) ?_ rfl ?_
    · have e0 := (HY.out.2.set 0 (.slice none 0 0)).set 1 (.slice none 0 0)
      have x0 := e0.cell 0
      have x1 := e0.cell 1
      simp only [List.set_cons_zero, List.set_cons_succ, List.getElem?_cons_zero, List.getElem?_cons_succ] at x0 x1
      simp [results, Try.results12, go_sem, x0, x1, zeroMemV]
    · have hx : w.heap.size ≤ w.heap.size + 1 := by omega
      refine ⟨((HW.out.1.trans (HY.out.1.mono HW.out.1.size)).setCell hx _).setCell hx _, ?_⟩
      rw [if_neg (by rw [HCE.out]; exact HZ.out), HCE.out]

set_option maxRecDepth 100000 in
set_option maxHeartbeats 1000000 in
theorem RBound_any (arsA codeA : Option Addr) (arsC codeC : Nat) (ars : List Ar) (regs spills : Int) (cd : List RI) (t : T) (w : World) (hars : RowB w.heap.size w 2 arsA ars.length fun i j => (ars.getD i default).cell j)
    (hcd : RowB w.heap.size w 5 codeA cd.length fun i j => (cd.getD i default).cell j) (hA : ars.length ≤ 9223372036854775807) (hC : cd.length ≤ 9223372036854775807) (harg : ∀ i ∈ cd, 0 ≤ i.arg ∧ i.arg < 4294967296)
    (ht : (chkCode ars regs spills cd).2 = 0 → cd = t.flat ∧ t.wf false 8) :
    Calls Try.prog 14 #[.agg #[.slice arsA ars.length arsC, .int .i64 regs, .int .i64 spills, .slice codeA cd.length codeC]] w fun e w' =>
      e = .returned (.tuple #[.int .i64 (boundRes (chkCode ars regs spills cd).2 (t.bd 0)).1, .int .i64 (boundRes (chkCode ars regs spills cd).2 (t.bd 0)).2]) ∧ Below w.heap.size w w' := by
  have HARS := Lib.hid hars
  have HCD := Lib.hid hcd
  have HARG := Lib.hid harg
  have HT := Lib.hid ht
  clear hars hcd harg ht
  have hb : Below w.heap.size w (w.alloc (.cells #[.slice arsA ars.length arsC, .int .i64 regs, .int .i64 spills, .slice codeA cd.length codeC] 25)) := (Below.refl _ _).alloc (Nat.le_refl _) _
  have HB := Lib.hid (And.intro hb (heap_new1 w (.cells #[.slice arsA ars.length arsC, .int .i64 regs, .int .i64 spills, .slice codeA cd.length codeC] 25)))
  clear hb
  go_enter Try.func14, Try.ntmps14
  go_upto_region 1 with (fail)
  refine wp_gen (fun W => Below w.heap.size w W ∧ Blk W w.heap.size [.slice arsA ars.length arsC, .int .i64 regs, .int .i64 spills, .slice codeA cd.length codeC] 25) HB.out ?_
  rintro W ⟨hbW, hbk⟩
  clear HB
  have a0 : W.cell? ⟨w.heap.size, 0, none⟩ = some (.slice arsA ars.length arsC) := hbk.cell 0
  have a1 : W.cell? ⟨w.heap.size, 0 + 1, none⟩ = some (.int .i64 regs) := hbk.cell 1
  have a2 : W.cell? ⟨w.heap.size, 0 + 1 + 1, none⟩ = some (.int .i64 spills) := hbk.cell 2
  have a3 : W.cell? ⟨w.heap.size, 0 + 1 + 1 + 1, none⟩ = some (.slice codeA cd.length codeC) := hbk.cell 3
  have HCH := Lib.hid (RCheck_any arsA codeA arsC codeC ars regs spills cd W ((HARS.out.below hbW).mono hbW.size) ((HCD.out.below hbW).mono hbW.size) hA hC HARG.out)
  have hWl := hbk.lt
  have HW := Lib.hid (And.intro hbW hbk)
  clear hbW hbk
  obtain ⟨ce, hce⟩ : ∃ ce, chkCode ars regs spills cd = ce := ⟨_, rfl⟩
  have HCE := Lib.hid hce
  clear hce
  by_cases hz : ce.2 = 0
  · have G := chk_good (ars := ars) (regs := regs) (spills := spills) (cd := cd) (by rw [HCE.out]; exact hz)
    obtain ⟨hcdt, hwf⟩ := HT.out (by rw [HCE.out]; exact hz)
    have HZ := Lib.hid hz
    have HG := Lib.hid G
    have HWF := Lib.hid (And.intro hcdt hwf)
    have hrange := T.bd_range True t 0 (fun i hi => (HARG.out i (by rw [hcdt]; exact hi)).1) (by unfold BY; omega)
    obtain ⟨bd, hbd⟩ : ∃ bd, t.bd 0 = bd := ⟨_, rfl⟩
    have HBD := Lib.hid hbd
    rw [hbd] at hrange
    have hr1 : 0 ≤ bd ∧ bd ≤ 281474976710657 := hrange
    clear hz G hbd hcdt hwf hrange
    go_wp2_with fail
    refine HCH.out.mono ?_
    rintro e Y ⟨⟨at_, he⟩, hbY⟩
    rw [HCE.out, HZ.out] at he
    subst he
    have y3 : Y.cell? ⟨w.heap.size, 3, none⟩ = some (.slice codeA cd.length codeC) := by rw [hbY.cell (p := ⟨w.heap.size, 3, none⟩) hWl]; exact a3
    have hYl : w.heap.size < Y.heap.size := by have := hbY.size; omega
    have hwY : Below w.heap.size w Y := HW.out.1.trans (hbY.mono HW.out.1.size)
    have HY := Lib.hid hwY
    have HBY := Lib.hid hbY
    clear hbY hwY a0 a1 a2 a3
    have HPA := Lib.hid (RPartners_any codeA codeC cd Y ((HCD.out.below HY.out).mono HY.out.size) HG.out.hcd part_lv)
    have hcI : cd.length ≤ 16384 := HG.out.hcd
    have kY := HW.out.2
    go_wp2_with fail
    refine HPA.out.mono ?_
    intro e Z hpost
    have hgood : Below Y.heap.size Y Z ∧ e = .returned (.tuple #[.slice (some ⟨Y.heap.size, 0, none⟩) cd.length cd.length, .int .i64 0, .int .i64 0]) ∧ Blk Z Y.heap.size (ints .i64 (t.rq 0 0)) 3 := by
      obtain ⟨hcdt, hwf⟩ := HWF.out
      rw [hcdt] at hpost ⊢
      exact part_good hwf hpost
    obtain ⟨hbZ, rfl, hpk⟩ := hgood
    have BA : Calls Try.prog 36 #[.agg #[.slice arsA ars.length arsC, .int .i64 regs, .int .i64 spills, .slice codeA cd.length codeC], .slice (some ⟨Y.heap.size, 0, none⟩) cd.length cd.length, .int .i64 0, .int .i64 (cd.length : Int)] Z fun e w' => e = .returned (.int .i64 bd) ∧ Below Z.heap.size Z w' := by
      obtain ⟨hcdt, hwf⟩ := HWF.out
      have hcdl : cd.length = t.flat.length := by rw [hcdt]
      have hpl : (t.pt 0 0).length = cd.length := by rw [t.pt_length, hcdl, t.flat_length]
      have hm : RbMem Z.heap.size Z codeA (some ⟨Y.heap.size, 0, none⟩) cd (t.pt 0 0) (t.rq 0 0) := by
        refine ⟨(HCD.out.below (HY.out.trans (hbZ.mono HY.out.size))).mono (HY.out.trans (hbZ.mono HY.out.size)).size, fun i hi => ?_, by rw [hcdt]; exact rq_agree t false 8 0 0 0 hwf⟩
        refine ⟨Y.heap.size, 0, rfl, hpk.lt, fun j hj => ?_⟩
        have hj0 : j = 0 := by omega
        subst hj0
        have := hpk.cell i
        rw [ints_get (by rw [t.rq_length, ← t.flat_length, ← hcdl]; exact hi)] at this
        simpa using this
      have h9 := rbound_any arsA ars.length arsC regs spills codeC cd.length codeA (some ⟨Y.heap.size, 0, none⟩) cd (t.pt 0 0) (t.rq 0 0) hpl (by omega) HARG.out (t.size + 1) t 0 0 false 8 Z (by omega) (by rw [hcdl, t.flat_length]; omega) ⟨by rw [hcdt]; exact fun j hj => by simp, fun p h1 h2 => by simp [ptFn]⟩ hwf hm
      rw [Nat.zero_add, ← t.flat_length, ← hcdl, HBD.out] at h9
      exact h9
    have kZ := (HW.out.2.below HBY.out hWl).below hbZ hYl
    have z0 : Z.cell? ⟨w.heap.size, 0, none⟩ = some (.slice arsA ars.length arsC) := kZ.cell 0
    have z1 : Z.cell? ⟨w.heap.size, 0 + 1, none⟩ = some (.int .i64 regs) := kZ.cell 1
    have z2 : Z.cell? ⟨w.heap.size, 0 + 1 + 1, none⟩ = some (.int .i64 spills) := kZ.cell 2
    have z3 : Z.cell? ⟨w.heap.size, 0 + 1 + 1 + 1, none⟩ = some (.slice codeA cd.length codeC) := kZ.cell 3
    have z3' : Z.cell? ⟨w.heap.size, 3, none⟩ = some (.slice codeA cd.length codeC) := kZ.cell 3
    have HBA := Lib.hid BA
    have HBZ := Lib.hid hbZ
    clear BA hpk hbZ hpost kZ kY y3
    go_wp2_with fail
    refine HBA.out.mono ?_
    rintro e V ⟨rfl, hbV⟩
    have hYV : Below Y.heap.size Y V := HBZ.out.trans (hbV.mono HBZ.out.size)
    have HYV := Lib.hid hYV
    clear hbV hYV z0 z1 z2 z3 z3'
    by_cases hge : 281474976710657 ≤ bd
    · have qg : decide (281474976710656 < bd) = true := by simp; omega
      go_wp2
      go_ret2
      exact ⟨by rw [HCE.out, HBD.out, HZ.out]; simp [boundRes, BY, hge], HY.out.trans (HYV.out.mono (by omega))⟩
    · have hge2 : ¬ 281474976710657 ≤ bd := hge
      have HGE := Lib.hid hge2
      have qg : decide (281474976710656 < bd) = false := by simp; omega
      clear hge2
      go_wp2
      go_ret2
      exact ⟨by rw [HCE.out, HBD.out, HZ.out]; unfold boundRes BY; rw [if_neg (by simp), if_neg (by have := HGE.out; omega)]; rfl, HY.out.trans (HYV.out.mono (by omega))⟩
  · have hne : (ce.2 != 0) = true := by simpa using hz
    have HZ := Lib.hid hz
    clear hz
    go_wp2_with fail
    refine HCH.out.mono ?_
    rintro e Y ⟨⟨at_, he⟩, hbY⟩
    rw [HCE.out] at he
    subst he
    have HY := Lib.hid hbY
    clear hbY
    go_wp2
    go_ret2
    exact ⟨by rw [HCE.out]; simp [boundRes, HZ.out], HW.out.1.trans (HY.out.mono HW.out.1.size)⟩
end Go.Proofs.Ytefdnjhhaejgbaa

namespace Go.Proofs.Ytefdnjhhaejgbaa
open Go.RowKit
set_option linter.unusedVariables false

def startArr (ars : List Ar) (er : Int) : List (List Int) := if er = 0 then zeros ars else []
def startCtx (er : Int) : List Int := if er = 0 then List.replicate 16 0 else []

theorem start_form {ars : List Ar} {regs spills : Int} {cd : List RI} {w w' : World} {e : Ending} (h : StartPost ars regs spills cd w e w') : Below w.heap.size w w' ∧
    ∃ qa cq ca cc, e = .returned (.tuple #[.agg #[.slice qa (startArr ars (chkCode ars regs spills cd).2).length cq, .slice ca (startCtx (chkCode ars regs spills cd).2).length cc], .int .i64 (chkCode ars regs spills cd).2]) ∧ MemRows qa ca (startArr ars (chkCode ars regs spills cd).2) (startCtx (chkCode ars regs spills cd).2) w' := by
  obtain ⟨hb, h⟩ := h
  refine ⟨hb, ?_⟩
  unfold startArr startCtx
  split at h
  · rename_i h0
    rw [h0, if_pos rfl, if_pos rfl]
    obtain ⟨v, rfl, hv⟩ := h
    obtain ⟨qa, cq, ca, cc, rfl, h1, h2⟩ := hv w' (fun _ _ => rfl)
    exact ⟨qa, cq, ca, cc, rfl, h1.toR, h2.row⟩
  · rename_i h0
    rw [if_neg h0, if_neg h0]
    exact ⟨none, 0, none, 0, h, fun k hk => (by simp at hk), fun k hk => (by simp at hk)⟩

set_option maxRecDepth 100000 in
set_option maxHeartbeats 1000000 in
theorem starts_idle (arsA codeA : Option Addr) (arsC codeC : Nat) (ars : List Ar) (regs spills : Int) (cd : List RI) (w : World) (hA : RowB w.heap.size w 2 arsA ars.length fun i j => (ars.getD i default).cell j) (hfew : fewB ars cd = false) :
    Calls Try.prog 3 #[.agg #[.slice arsA ars.length arsC, .int .i64 regs, .int .i64 spills, .slice codeA cd.length codeC]] w fun e w' => e = .returned (.bool true) ∧ Below w.heap.size w w' := by
  have hW : Below w.heap.size w (w.alloc (.cells #[.slice arsA ars.length arsC, .int .i64 regs, .int .i64 spills, .slice codeA cd.length codeC] 25)) := (Below.refl _ _).alloc (Nat.le_refl _) _
  have hF := few_any arsA codeA arsC codeC regs spills ars cd _ ((hA.below hW).mono hW.size)
  rw [hfew] at hF
  have HF := Lib.hid hF
  have HW := Lib.hid hW
  clear hF hW hA hfew
  go_enter Try.func3, Try.ntmps3
  go_wp2_with fail
  refine HF.out.mono ?_
  rintro e W2 ⟨rfl, hb2⟩
  have H2 := Lib.hid (HW.out.trans (hb2.mono HW.out.size))
  clear hb2 HF
  go_wp2_with fail
  refine (awake_true W2).mono ?_
  rintro e W3 ⟨rfl, hb3⟩
  have H3 := Lib.hid (H2.out.trans (hb3.mono H2.out.size))
  clear hb3
  go_wp2
  go_ret
  exact ⟨rfl, H3.out⟩

set_option maxRecDepth 100000 in
set_option maxHeartbeats 1000000 in
theorem starts_main (arsA codeA : Option Addr) (arsC codeC : Nat) (ars : List Ar) (regs spills : Int) (cd : List RI) (t : T) (w : World)
    (hA : RowB w.heap.size w 2 arsA ars.length fun i j => (ars.getD i default).cell j) (hC : RowB w.heap.size w 5 codeA cd.length fun i j => (cd.getD i default).cell j)
    (ok : CodeOk ars regs spills cd) (hfew : fewB ars cd = true) (ht : (chkCode ars regs spills cd).2 = 0 → cd = t.flat ∧ t.wf false 8)
    (hsm : ∀ a ∈ startArr ars (chkCode ars regs spills cd).2, a.length ≤ 65536) (hsl : (startArr ars (chkCode ars regs spills cd).2).length ≤ 65536) (hsc : (startCtx (chkCode ars regs spills cd).2).length ≤ 65536) :
    Calls Try.prog 3 #[.agg #[.slice arsA ars.length arsC, .int .i64 regs, .int .i64 spills, .slice codeA cd.length codeC]] w fun e w' => e = .returned (.bool true) ∧ Below w.heap.size w w' := by
  have hW : Below w.heap.size w (w.alloc (.cells #[.slice arsA ars.length arsC, .int .i64 regs, .int .i64 spills, .slice codeA cd.length codeC] 25)) := (Below.refl _ _).alloc (Nat.le_refl _) _
  have hF := few_any arsA codeA arsC codeC regs spills ars cd _ ((hA.below hW).mono hW.size)
  rw [hfew] at hF
  have HF := Lib.hid hF
  have HW := Lib.hid hW
  have HS1 := Lib.hid (fun W (hb : Below w.heap.size w W) => Start_any arsA codeA arsC codeC ars regs spills cd W ((hA.below hb).mono hb.size) ((hC.below hb).mono hb.size) ok.la ok.lc ok.arg)
  have HS2 := Lib.hid (fun W (hb : Below w.heap.size w W) => RStart_any arsA codeA arsC codeC ars regs spills cd W ((hA.below hb).mono hb.size) ((hC.below hb).mono hb.size) ok.la ok.lc ok.arg)
  have HB1 := Lib.hid (fun W (hb : Below w.heap.size w W) => Bound_any arsA codeA arsC codeC ars regs spills cd t W ((hA.below hb).mono hb.size) ((hC.below hb).mono hb.size) ok.la ok.lc ok.arg ht)
  have HB2 := Lib.hid (fun W (hb : Below w.heap.size w W) => RBound_any arsA codeA arsC codeC ars regs spills cd t W ((hA.below hb).mono hb.size) ((hC.below hb).mono hb.size) ok.la ok.lc ok.arg ht)
  obtain ⟨er, her⟩ : ∃ er, (chkCode ars regs spills cd).2 = er := ⟨_, rfl⟩
  obtain ⟨b, g, hbg⟩ : ∃ b g, boundRes (chkCode ars regs spills cd).2 (t.bd 0) = (b, g) := ⟨_, _, rfl⟩
  rw [hbg] at HB1 HB2
  dsimp only at HB1 HB2
  have HFM := Lib.hid (fun (W W' : World) (e : Ending) (h : StartPost ars regs spills cd W e W') => start_form h)
  rw [her] at HFM hsm hsl hsc
  obtain ⟨ms, hms⟩ : ∃ ms, startArr ars er = ms := ⟨_, rfl⟩
  obtain ⟨cx, hcx⟩ : ∃ cx, startCtx er = cx := ⟨_, rfl⟩
  rw [hms] at HFM hsm hsl
  rw [hcx] at HFM hsc
  have HSM := Lib.hid hsm
  clear hF hW hA hC ok hfew ht her hbg hms hcx hsm
  go_enter Try.func3, Try.ntmps3
  go_wp2_with fail
  refine HF.out.mono ?_
  rintro e W2 ⟨rfl, hb2⟩
  have kc2 : Blk W2 w.heap.size [.slice arsA ars.length arsC, .int .i64 regs, .int .i64 spills, .slice codeA cd.length codeC] 25 := (show Blk (w.alloc _) w.heap.size _ _ from heap_new1 _ _).below hb2 (by simp)
  have H2 := Lib.hid (HW.out.trans (hb2.mono HW.out.size))
  have K2 := Lib.hid kc2
  have a0 : W2.cell? ⟨w.heap.size, 0, none⟩ = some (.slice arsA ars.length arsC) := kc2.cell 0
  have a1 : W2.cell? ⟨w.heap.size, 0 + 1, none⟩ = some (.int .i64 regs) := kc2.cell 1
  have a2 : W2.cell? ⟨w.heap.size, 0 + 1 + 1, none⟩ = some (.int .i64 spills) := kc2.cell 2
  have a3 : W2.cell? ⟨w.heap.size, 0 + 1 + 1 + 1, none⟩ = some (.slice codeA cd.length codeC) := kc2.cell 3
  clear hb2 HF kc2 HW
  go_wp2_with fail
  refine (HS1.out W2 H2.out).mono ?_
  intro e Y1 hpost
  obtain ⟨hbY, qa, cq, ca, cc, rfl, hm1⟩ := HFM.out _ _ _ hpost
  have H3 := Lib.hid (And.intro (H2.out.trans (hbY.mono H2.out.size)) (And.intro (K2.out.below hbY K2.out.lt) hm1))
  have hl1 : w.heap.size < Y1.heap.size := Nat.lt_of_lt_of_le K2.out.lt hbY.size
  clear hpost hbY hm1 a0 a1 a2 a3 K2 H2
  go_upto_region 4 with (fail)
  refine wp_gen (fun W => Below w.heap.size w W ∧ Blk W w.heap.size [.slice arsA ars.length arsC, .int .i64 regs, .int .i64 spills, .slice codeA cd.length codeC] 25 ∧ Blk W Y1.heap.size [.slice qa ms.length cq, .slice ca cx.length cc] 31 ∧ MemRows qa ca ms cx W) ?_ ?_
  · have hbb : Below Y1.heap.size Y1 (Y1.alloc (.cells #[.slice qa ms.length cq, .slice ca cx.length cc] 31)) := (Below.refl _ _).alloc (Nat.le_refl _) _
    obtain ⟨h1, h2, h3⟩ := H3.out
    exact ⟨h1.trans (hbb.mono h1.size), h2.below hbb h2.lt, heap_new1 _ _, h3.1.below hbb, (h3.2.below hbb).mono hbb.size⟩
  rintro W3 ⟨hb3, kc3, km3, hm3⟩
  have H4 := Lib.hid (And.intro hb3 (And.intro kc3 (And.intro km3 hm3)))
  have a0 : W3.cell? ⟨w.heap.size, 0, none⟩ = some (.slice arsA ars.length arsC) := kc3.cell 0
  have a1 : W3.cell? ⟨w.heap.size, 0 + 1, none⟩ = some (.int .i64 regs) := kc3.cell 1
  have a2 : W3.cell? ⟨w.heap.size, 0 + 1 + 1, none⟩ = some (.int .i64 spills) := kc3.cell 2
  have a3 : W3.cell? ⟨w.heap.size, 0 + 1 + 1 + 1, none⟩ = some (.slice codeA cd.length codeC) := kc3.cell 3
  clear hb3 kc3 km3 hm3 H3
  go_wp2_with fail
  refine (HS2.out W3 H4.out.1).mono ?_
  intro e Y2 hpost
  obtain ⟨hbY, qb, cr, cb, cs, rfl, hm2⟩ := HFM.out _ _ _ hpost
  obtain ⟨g1, g2, g3, g4⟩ := H4.out
  have H5 := Lib.hid (And.intro (g1.trans (hbY.mono g1.size)) (And.intro (g2.below hbY g2.lt) (And.intro (g3.below hbY g3.lt) (And.intro (show MemRows qa ca ms cx Y2 from ⟨g4.1.below hbY, (g4.2.below hbY).mono hbY.size⟩) hm2))))
  have hl2 : Y1.heap.size < Y2.heap.size := Nat.lt_of_lt_of_le g3.lt hbY.size
  clear hpost hbY hm2 a0 a1 a2 a3 g1 g2 g3 g4 H4
  go_upto_region 5 with (fail)
  refine wp_gen (fun W => Below w.heap.size w W ∧ Blk W w.heap.size [.slice arsA ars.length arsC, .int .i64 regs, .int .i64 spills, .slice codeA cd.length codeC] 25 ∧ Blk W Y1.heap.size [.slice qa ms.length cq, .slice ca cx.length cc] 31 ∧ MemRows qa ca ms cx W ∧ Blk W Y2.heap.size [.slice qb ms.length cr, .slice cb cx.length cs] 31 ∧ MemRows qb cb ms cx W) ?_ ?_
  · have hbb : Below Y2.heap.size Y2 (Y2.alloc (.cells #[.slice qb ms.length cr, .slice cb cx.length cs] 31)) := (Below.refl _ _).alloc (Nat.le_refl _) _
    obtain ⟨h1, h2, h3, h4, h5⟩ := H5.out
    exact ⟨h1.trans (hbb.mono h1.size), h2.below hbb h2.lt, h3.below hbb h3.lt, ⟨h4.1.below hbb, (h4.2.below hbb).mono hbb.size⟩, heap_new1 _ _, h5.1.below hbb, (h5.2.below hbb).mono hbb.size⟩
  rintro W4 ⟨hb4, kc4, km4, hm4, kn4, hn4⟩
  have H6 := Lib.hid (And.intro hb4 (And.intro kc4 (And.intro km4 (And.intro hm4 (And.intro kn4 hn4)))))
  have a0 : W4.cell? ⟨w.heap.size, 0, none⟩ = some (.slice arsA ars.length arsC) := kc4.cell 0
  have a1 : W4.cell? ⟨w.heap.size, 0 + 1, none⟩ = some (.int .i64 regs) := kc4.cell 1
  have a2 : W4.cell? ⟨w.heap.size, 0 + 1 + 1, none⟩ = some (.int .i64 spills) := kc4.cell 2
  have a3 : W4.cell? ⟨w.heap.size, 0 + 1 + 1 + 1, none⟩ = some (.slice codeA cd.length codeC) := kc4.cell 3
  clear hb4 kc4 km4 hm4 kn4 hn4 H5
  go_wp2_with fail
  refine (HB1.out W4 H6.out.1).mono ?_
  rintro e W5 ⟨rfl, hb5⟩
  obtain ⟨g1, g2, g3, g4, g5, g6⟩ := H6.out
  have kc5 := g2.below hb5 g2.lt
  have H7 := Lib.hid (And.intro (g1.trans (hb5.mono g1.size)) (And.intro kc5 (And.intro (g3.below hb5 g3.lt) (And.intro (show MemRows qa ca ms cx W5 from ⟨g4.1.below hb5, (g4.2.below hb5).mono hb5.size⟩) (And.intro (g5.below hb5 g5.lt) (show MemRows qb cb ms cx W5 from ⟨g6.1.below hb5, (g6.2.below hb5).mono hb5.size⟩))))))
  clear a0 a1 a2 a3
  have a0 : W5.cell? ⟨w.heap.size, 0, none⟩ = some (.slice arsA ars.length arsC) := kc5.cell 0
  have a1 : W5.cell? ⟨w.heap.size, 0 + 1, none⟩ = some (.int .i64 regs) := kc5.cell 1
  have a2 : W5.cell? ⟨w.heap.size, 0 + 1 + 1, none⟩ = some (.int .i64 spills) := kc5.cell 2
  have a3 : W5.cell? ⟨w.heap.size, 0 + 1 + 1 + 1, none⟩ = some (.slice codeA cd.length codeC) := kc5.cell 3
  clear hb5 kc5 g1 g2 g3 g4 g5 g6 H6
  go_wp2_with fail
  refine (HB2.out W5 H7.out.1).mono ?_
  rintro e W6 ⟨rfl, hb6⟩
  obtain ⟨g1, g2, g3, g4, g5, g6⟩ := H7.out
  have H8 := Lib.hid (And.intro (g1.trans (hb6.mono g1.size)) (And.intro (g3.below hb6 g3.lt) (And.intro (show MemRows qa ca ms cx W6 from ⟨g4.1.below hb6, (g4.2.below hb6).mono hb6.size⟩) (And.intro (g5.below hb6 g5.lt) (show MemRows qb cb ms cx W6 from ⟨g6.1.below hb6, (g6.2.below hb6).mono hb6.size⟩)))))
  clear hb6 a0 a1 a2 a3 g1 g2 g3 g4 g5 g6 H7
  go_wp2_with fail
  refine (awake_true W6).mono ?_
  rintro e W7 ⟨rfl, hb7⟩
  obtain ⟨g1, g3, g4, g5, g6⟩ := H8.out
  have km7 := g3.below hb7 g3.lt
  have kn7 := g5.below hb7 g5.lt
  have m0 : W7.cell? ⟨Y1.heap.size, 0, none⟩ = some (.slice qa ms.length cq) := km7.cell 0
  have m1 : W7.cell? ⟨Y1.heap.size, 0 + 1, none⟩ = some (.slice ca cx.length cc) := km7.cell 1
  have n0 : W7.cell? ⟨Y2.heap.size, 0, none⟩ = some (.slice qb ms.length cr) := kn7.cell 0
  have n1 : W7.cell? ⟨Y2.heap.size, 0 + 1, none⟩ = some (.slice cb cx.length cs) := kn7.cell 1
  have HSA := Lib.hid (same_mem qa ca qb cb cq cc cr cs ms cx W7 (g4.1.below hb7) ((g4.2.below hb7).mono hb7.size) (g6.1.below hb7) ((g6.2.below hb7).mono hb7.size) (by omega) (by omega) (fun a ha => by have := HSM.out a ha; omega))
  have H9 := Lib.hid (g1.trans (hb7.mono g1.size))
  clear hb7 g1 g3 g4 g5 g6 km7 kn7 H8
  go_wp2_with fail
  refine HSA.out.mono ?_
  rintro e W8 ⟨rfl, hb8⟩
  have HA := Lib.hid (H9.out.trans (hb8.mono H9.out.size))
  clear hb8 m0 m1 n0 n1
  go_wp2
  go_ret
  exact ⟨rfl, HA.out⟩

theorem starts_walk (ars : List Ar) (regs spills : Int) (cd : List RI) (v : Value) (w : World) (hc : CodeAt w ars regs spills cd v) (ok : CodeOk ars regs spills cd) :
    Calls Try.prog 3 #[v] w fun e w' => e = .returned (.bool true) ∧ Below w.heap.size w w' := by
  obtain ⟨arsA, arsC, codeA, codeC, rfl, hA, hC⟩ := hc
  cases hf : fewB ars cd with
  | false => exact starts_idle arsA codeA arsC codeC ars regs spills cd w hA hf
  | true =>
    by_cases hchk : (chkCode ars regs spills cd).2 = 0
    · have G := chk_good hchk
      obtain ⟨t, R⟩ := good_tree G ok.arg 0 false 0
      obtain ⟨e1, e2, _, _, _⟩ := R
      have hz := zeros_len G.hars
      have hl := G.hnA
      refine starts_main arsA codeA arsC codeC ars regs spills cd t w hA hC ok hf (fun _ => ⟨e1, e2⟩) ?_ ?_ ?_
      · rw [hchk]; unfold startArr; rw [if_pos rfl]; exact fun a ha => by have := hz a ha; omega
      · rw [hchk]; unfold startArr; rw [if_pos rfl]; simp [zeros]; omega
      · rw [hchk]; unfold startCtx; rw [if_pos rfl]; simp
    · refine starts_main arsA codeA arsC codeC ars regs spills cd .nil w hA hC ok hf (fun h => absurd h hchk) ?_ ?_ ?_
      · unfold startArr; rw [if_neg hchk]; simp
      · unfold startArr; rw [if_neg hchk]; simp
      · unfold startCtx; rw [if_neg hchk]; simp
end Go.Proofs.Ytefdnjhhaejgbaa

namespace Go.Proofs.Ytefdnjhhaejgbaa.machineStarts
open Go.ChangeShapes Go.WideShapes Go.ChangeAt Go.RowKit
open Go.ChangeMaps (open_string shut_string)
set_option linter.unusedVariables false

theorem own : ownKnob Try.prog.godebug = none := by kernel_rfl
theorem params_read : (Try.f3.params.toList.all fun t => Try.prog.readableRec t && decide (t < Try.prog.types.size)) = true := by kernel_rfl
theorem laid : laidOutB Try.prog = true := by kernel_rfl
theorem params_len : Try.f3.params.toList.length = 1 := by kernel_rfl

set_option maxRecDepth 100000 in
theorem lifted (os : Os) (started : os.Started) (H : Type) (enc : TypeId × Value → H) :
    ReturnsInHanded {} Try.checked os 3 .any (Rows.machineStartsSpec.pre6 enc Try.prog Try.f3 Rows.machineStartsRow.domain false) (Rows.machineStartsSpec.post enc Try.prog Try.f3 false true false false) := by
  refine law_row (C := Try.checked) (k := 3) (f := Try.f3) (s := Rows.machineStartsSpec) (tb := 4) own started (by kernel_rfl) Try.func3
    (ChangeSpec.witness6 (enc := enc) (C := Try.checked) false ⟨#[], #[.agg #[.slice none 0 0, .int .i64 0, .int .i64 0, .slice none 0 0]], []⟩ 8 (by kernel_rfl) (by kernel_rfl) (by kernel_rfl) (by kernel_rfl))
    laid ?_ rfl ?_ (by kernel_rfl) Try.underlying4 ?_
  · intro t ht
    have := List.all_eq_true.1 params_read t ht
    rw [Bool.and_eq_true, decide_eq_true_eq] at this
    exact this
  · intro ds hds
    rw [params_len] at hds
    match ds, hds with
    | [a], _ => rfl
  · intro W base args ds p hval hA
    rw [Try.params3] at hA hval
    obtain ⟨v0, vs0, d0, ds0, p0, q0, hargs, rfl, rfl, h0, r0⟩ := trodAll_cons hA
    obtain ⟨rfl, rfl, rfl⟩ := trodAll_nil r0
    obtain rfl : args = #[v0] := by cases args; simp_all
    obtain ⟨ars, regs, spills, cd, hc, ok⟩ := open_code (hval 0 _ v0 rfl rfl) h0
    exact starts_walk ars regs spills cd v0 W hc ok

theorem over : Rows.machineStartsRow.holds Try.pinned (OpenSpec.ofChange Rows.machineStartsSpec) :=
  OpenClaim.holds_of_wide 3 Try.f3 rfl rfl rfl rfl rfl rfl rfl ⟨rfl, rfl, rfl, rfl, rfl⟩ rfl rfl rfl rfl rfl (by kernel_rfl) Try.func3 (by kernel_rfl)
    (of_decide_eq_true (by kernel_rfl)) (by unfold Func.isWrapper; first | (rw [if_pos (by decide +kernel)]; kernel_rfl) | (rw [if_neg (by decide +kernel)]; exact ⟨rfl, rfl⟩))
    (fun os started H enc _ => lifted os started H enc)

/-- ████ THE STATEMENT ████ -/
theorem proved : Rows.MachineStartsSaid :=
  over
#print axioms proved
end Go.Proofs.Ytefdnjhhaejgbaa.machineStarts
