/- A part of the proof of MachineFeeds: Ph Ra Rc Rd Pj. No condition. -/
import Derived.Test.YtefdnjhhaejgbaaGf17
import Derived.Test.YtefdnjhhaejgbaaGf25
import Derived.Test.YtefdnjhhaejgbaaGf15
import Derived.Test.YtefdnjhhaejgbaaGf06
import Derived.Test.YtefdnjhhaejgbaaGf09
import Derived.Test.YtefdnjhhaejgbaaGf13
import Derived.Test.YtefdnjhhaejgbaaGf18
set_option linter.unusedSimpArgs false
set_option linter.unusedVariables false
namespace Go.Proofs.Ytefdnjhhaejgbaa
open Go.RowKit
set_option linter.unusedVariables false
def refArs : List Ar → Int → Bool
  | [], _ => false
  | a :: l, c => if a.size < 1 ∨ 65536 - c < a.size then true else refArs l (c + a.size)
theorem refArs_is : ∀ (l : List Ar) (c : Int), 0 ≤ c → c ≤ 65536 → refArs l c = match chkArs l c with | none => true | some n => decide (65536 < n)
  | [], c, h1, h2 => by simp [refArs, chkArs]; omega
  | a :: l, c, h1, h2 => by
    simp only [refArs, chkArs]
    by_cases ha : a.size < 1
    · rw [if_pos (.inl ha), if_pos (.inl ha)]
    by_cases hb : 65536 < a.size
    · rw [if_pos (.inr (by omega)), if_pos (.inr hb)]
    rw [if_neg (show ¬ (a.size < 1 ∨ 65536 < a.size) by omega)]
    by_cases hc : 65536 - c < a.size
    · rw [if_pos (.inr hc)]
      cases hm : chkArs l (c + a.size) with
      | none => rfl
      | some m =>
        have := (chkArs_le l _ _ hm (by omega)).1
        simp
        omega
    · rw [if_neg (by omega)]
      exact refArs_is l (c + a.size) (by omega) (by omega)
theorem chk_ars {ars : List Ar} {regs spills : Int} {cd : List RI} (h8 : ars.length ≤ 8) (h : refArs ars 0 = true) : (chkCode ars regs spills cd).2 = 2 := by
  rw [refArs_is ars 0 (by omega) (by omega)] at h
  unfold chkCode
  rw [if_neg (by omega)]
  cases hm : chkArs ars 0 with
  | none => rfl
  | some n =>
    rw [hm] at h
    simp only
    rw [if_pos (.inl (by simpa using h))]
theorem chk_regs {ars : List Ar} {regs spills : Int} {cd : List RI} (h8 : ars.length ≤ 8) (h : regs < 0 ∨ 1024 < regs ∨ spills < 0 ∨ 1024 < spills) : (chkCode ars regs spills cd).2 = 2 := by
  unfold chkCode
  rw [if_neg (by omega)]
  cases hm : chkArs ars 0 with
  | none => rfl
  | some n => simp only; rw [if_pos (.inr h)]
theorem chk_rest {ars : List Ar} {regs spills : Int} {cd : List RI} (h8 : ars.length ≤ 8) (h : refArs ars 0 = false) (hr : ¬ (regs < 0 ∨ 1024 < regs ∨ spills < 0 ∨ 1024 < spills)) :
    chkCode ars regs spills cd = if 16384 < cd.length then (0, 6) else match chkAll regs spills ars.length cd 0 with | some r => r | none => if (nestRun cd 0 []).2 then ((nestRun cd 0 []).1, 15) else (0, 0) := by
  rw [refArs_is ars 0 (by omega) (by omega)] at h
  unfold chkCode
  rw [if_neg (by omega)]
  cases hm : chkArs ars 0 with
  | none => rw [hm] at h; cases h
  | some n =>
    rw [hm] at h
    simp only
    rw [if_neg (by
      rintro (h1 | h1)
      · simp at h; omega
      · exact hr h1)]
    rfl
theorem part_safe {cd : List RI} {out : List Int} (h : prun cd cd.length 0 (List.replicate cd.length 0) [] = .ok (out, [])) : ∃ t : T, cd = t.flat ∧ t.wf false 8 ∧ out = t.rp 0 := by
  have hn := prun_nest cd.length 0 (List.replicate cd.length 0) [] [] (prel_init cd) (by omega)
  rw [h] at hn
  simp only [List.drop_zero, List.length_nil, Nat.lt_irrefl, decide_false] at hn
  obtain ⟨t, rfl, hw⟩ := parse_all cd hn
  rw [prun_flat t hw] at h
  cases h
  exact ⟨t, rfl, hw, rfl⟩
theorem part_lv {cd : List RI} : ∀ out, prun cd cd.length 0 (List.replicate cd.length 0) [] = .ok (out, []) → ∃ r, lrun cd cd.length 0 out [] = some r := fun out h => by
  obtain ⟨t, rfl, hw, rfl⟩ := part_safe h
  exact ⟨_, lrun_flat t hw⟩
theorem part_err {w w' : World} {cd : List RI} {e : Ending} (h : PPost w cd (prun cd cd.length 0 (List.replicate cd.length 0) []) e w') :
    Below w.heap.size w w' ∧ ∃ v at_, e = .returned (.tuple #[v, .int .i64 at_, .int .i64 (if (nestRun cd 0 []).2 then 15 else 0)]) := by
  have hn := prun_nest cd.length 0 (List.replicate cd.length 0) [] [] (prel_init cd) (by omega)
  simp only [List.drop_zero] at hn
  obtain ⟨hb, h⟩ := h
  refine ⟨hb, ?_⟩
  cases hp : prun cd cd.length 0 (List.replicate cd.length 0) [] with
  | error k =>
    rw [hp] at h hn
    rw [hn]
    exact ⟨_, _, h⟩
  | ok x =>
    obtain ⟨out, opn⟩ := x
    rw [hp] at h hn
    simp only at h hn
    rw [hn]
    by_cases h0 : 0 < opn.length
    · rw [if_pos h0] at h
      rw [if_pos (by simpa using h0)]
      exact ⟨_, _, h⟩
    · rw [if_neg h0] at h
      rw [if_neg (by simpa using h0)]
      have : opn = [] := List.eq_nil_of_length_eq_zero (by omega)
      subst this
      obtain ⟨r, hr⟩ := part_lv out hp
      exact ⟨_, _, (h r hr).1⟩
theorem part_good {w w' : World} {t : T} {e : Ending} (hw : t.wf false 8) (h : PPost w t.flat (prun t.flat t.flat.length 0 (List.replicate t.flat.length 0) []) e w') :
    Below w.heap.size w w' ∧ e = .returned (.tuple #[.slice (some ⟨w.heap.size, 0, none⟩) t.flat.length t.flat.length, .int .i64 0, .int .i64 0]) ∧ Blk w' w.heap.size (ints .i64 (t.rq 0 0)) 3 := by
  rw [prun_flat t hw] at h
  obtain ⟨hb, h⟩ := h
  simp only [List.length_nil, Nat.lt_irrefl, if_false] at h
  have := h _ (lrun_flat t hw)
  exact ⟨hb, this.1, this.2⟩
theorem drop_next {α : Type} [Inhabited α] (l : List α) (k : Nat) (hk : k < l.length) : l.drop k = l.getD k default :: l.drop (k + 1) := by
  rw [List.drop_eq_getElem_cons hk, List.getD_eq_getElem?_getD, List.getElem?_eq_getElem hk]; rfl
def RcPost (ars : List Ar) (regs spills : Int) (cd : List RI) (w : World) (e : Ending) (w' : World) : Prop := (∃ at_, e = .returned (.tuple #[.int .i64 at_, .int .i64 (chkCode ars regs spills cd).2])) ∧ Below w.heap.size w w'
set_option maxRecDepth 100000 in
set_option maxHeartbeats 1000000 in
theorem RCheck_any (arsA codeA : Option Addr) (arsC codeC : Nat) (ars : List Ar) (regs spills : Int) (cd : List RI) (w : World)
    (hars : RowB w.heap.size w 2 arsA ars.length fun i j => (ars.getD i default).cell j) (hcd : RowB w.heap.size w 5 codeA cd.length fun i j => (cd.getD i default).cell j)
    (hA : ars.length ≤ 9223372036854775807) (hC : cd.length ≤ 9223372036854775807) (harg : ∀ i ∈ cd, 0 ≤ i.arg ∧ i.arg < 4294967296) :
    Calls Try.prog 31 #[.agg #[.slice arsA ars.length arsC, .int .i64 regs, .int .i64 spills, .slice codeA cd.length codeC]] w (RcPost ars regs spills cd w) := by
  have HARS := Lib.hid hars
  have HCD := Lib.hid hcd
  have HARG := Lib.hid harg
  clear hars hcd harg
  go_enter Try.func31, Try.ntmps31
  go_upto_region 1 with (fail)
  refine wp_gen (fun W => Below w.heap.size w W ∧ Blk W w.heap.size [.slice arsA ars.length arsC, .int .i64 regs, .int .i64 spills, .slice codeA cd.length codeC] 25) ⟨(Below.refl _ _).alloc (Nat.le_refl _) _, heap_new1 _ _⟩ ?_
  rintro W ⟨hbW, kW⟩
  have a0 : W.cell? ⟨w.heap.size, 0, none⟩ = some (.slice arsA ars.length arsC) := kW.cell 0
  have a1 : W.cell? ⟨w.heap.size, 1, none⟩ = some (.int .i64 regs) := kW.cell 1
  have a2 : W.cell? ⟨w.heap.size, 2, none⟩ = some (.int .i64 spills) := kW.cell 2
  have a3 : W.cell? ⟨w.heap.size, 3, none⟩ = some (.slice codeA cd.length codeC) := kW.cell 3
  have l0 : w.heap.size < W.heap.size := kW.lt
  have HW := Lib.hid (And.intro hbW kW)
  clear hbW kW
  by_cases h8 : ars.length ≤ 8
  rotate_left
  · have q : decide ((8 : Int) < (ars.length : Int)) = true := by simp; omega
    have HE := Lib.hid (show (chkCode ars regs spills cd).2 = 6 by unfold chkCode; rw [if_pos (by omega)])
    go_wp2
    refine bodyPost_ret (by simp [results, Try.results31, go_sem]; try rfl) rfl ?_
    exact ⟨⟨0, by rw [HE.out]⟩, HW.out.1⟩
  have q8 : decide ((8 : Int) < (ars.length : Int)) = false := by simp; omega
  go_wp2_with fail
  go_loopw [4, 5] (fun c i wr => ∃ (k : Nat) (n : Int), i = .int .i64 (k : Int) ∧ c = .int .i64 n ∧ k ≤ ars.length ∧ 0 ≤ n ∧ n ≤ 65536 ∧ refArs (ars.drop k) n = refArs ars 0 ∧ wr = W) (fun _ i _ => ars.length - (intOf i).toNat)
  case atStart => exact ⟨0, 0, rfl, rfl, Nat.zero_le _, by omega, by omega, by simp, rfl⟩
  case round =>
    obtain ⟨k, n, rfl, rfl, hkl, hn0, hn1, hra, rfl⟩ := hrel
    by_cases hk : k < ars.length
    · obtain ⟨b, off, rfl, hb, hc⟩ := HARS.out k hk
      have hk' := nat_cast_ltQ hk
      have hbw : b < wr.heap.size := by omega
      obtain ⟨sz, hsz⟩ : ∃ sz, (ars.getD k default).size = sz := ⟨_, rfl⟩
      have hc2 : wr.cell? ⟨b, off + k * 2 + 1, none⟩ = some (.int .i64 sz) := by
        rw [HW.out.1.cell (p := ⟨b, off + k * 2 + 1, none⟩) hb, ← hsz]; exact hc 1 (by omega)
      rw [drop_next ars k hk, refArs, hsz] at hra
      have q : decide ((k : Int) < (ars.length : Int)) = true := by simp; omega
      clear hc hsz
      by_cases hbad : sz < 1 ∨ 65536 - n < sz
      · rw [if_pos hbad] at hra
        have HE := Lib.hid (chk_ars (regs := regs) (spills := spills) (cd := cd) h8 hra.symm)
        clear hra
        by_cases h1 : sz < 1
        · have q1 : decide (sz < 1) = true := by simp; omega
          go_wp2
          refine bodyPost_ret (by simp [results, Try.results31, go_sem]; try rfl) rfl ?_
          exact ⟨⟨0, by rw [HE.out]⟩, HW.out.1⟩
        · have q1 : decide (sz < 1) = false := by simp; omega
          have q2 : decide (65536 - n < sz) = true := by simp; omega
          go_wp2
          refine bodyPost_ret (by simp [results, Try.results31, go_sem]; try rfl) rfl ?_
          exact ⟨⟨0, by rw [HE.out]⟩, HW.out.1⟩
      · rw [if_neg hbad] at hra
        have q1 : decide (sz < 1) = false := by simp; omega
        have q2 : decide (65536 - n < sz) = false := by simp; omega
        have HRA := Lib.hid hra
        clear hra
        go_wp2
        go_roundw
        case rel => exact ⟨k + 1, n + sz, by simp, rfl, hk, by omega, by omega, HRA.out, by first | trivial | rfl⟩
        case measure => simp [intOf]; omega
    have hke : k = ars.length := by omega
    subst hke
    have q : decide ((ars.length : Int) < (ars.length : Int)) = false := by simp
    rw [List.drop_length] at hra
    have HRA := Lib.hid (show refArs ars 0 = false from hra.symm)
    clear hra
    by_cases hr : regs < 0 ∨ 1024 < regs ∨ spills < 0 ∨ 1024 < spills
    · have HE := Lib.hid (chk_regs (cd := cd) h8 hr)
      go_wp2
      all_goals first
        | (refine bodyPost_ret (by simp [results, Try.results31, go_sem]; try rfl) rfl ?_
           exact ⟨⟨0, by rw [HE.out]⟩, HW.out.1⟩)
        | (exfalso; omega)
    have q1 : decide (regs < 0) = false := by simp; omega
    have q2 : decide (1024 < regs) = false := by simp; omega
    have q3 : decide (spills < 0) = false := by simp; omega
    have q4 : decide (1024 < spills) = false := by simp; omega
    have HCK := Lib.hid (chk_rest (cd := cd) h8 HRA.out hr)
    clear hr
    by_cases hlen : 16384 < cd.length
    · have q5 : decide ((16384 : Int) < (cd.length : Int)) = true := by simp; omega
      have HE := Lib.hid (show (chkCode ars regs spills cd).2 = 6 by rw [HCK.out, if_pos hlen])
      go_wp2
      refine bodyPost_ret (by simp [results, Try.results31, go_sem]; try rfl) rfl ?_
      exact ⟨⟨0, by rw [HE.out]⟩, HW.out.1⟩
    have q5 : decide ((16384 : Int) < (cd.length : Int)) = false := by simp; omega
    have hck := HCK.out
    rw [if_neg hlen] at hck
    have HCK2 := Lib.hid hck
    clear hck HCK
    have HPA := Lib.hid (fun Z (hb : Below w.heap.size w Z) => RPartners_any codeA codeC cd Z ((HCD.out.below hb).mono hb.size) (by omega) part_lv)
    go_wp2_with fail
    clear a0 a1 a2 a3
    go_loopw [7] (fun i wz => ∃ k : Nat, i = .int .i64 (k : Int) ∧ k ≤ cd.length ∧ Hid (chkAll regs spills ars.length (cd.drop k) k = chkAll regs spills ars.length cd 0) ∧ Hid (Below wr.heap.size wr wz)) (fun i _ => cd.length - (intOf i).toNat)
    case atStart => exact ⟨0, rfl, Nat.zero_le _, Lib.hid (by simp), Lib.hid (Below.refl _ _)⟩
    case round =>
      obtain ⟨m, rfl, hml, hall, hbz⟩ := hrel
      have hbz' := hbz.out
      have kz := HW.out.2.below hbz' HW.out.2.lt
      have hwz := HW.out.1.trans (hbz'.mono HW.out.1.size)
      have a3 : wr.cell? ⟨w.heap.size, 3, none⟩ = some (.slice codeA cd.length codeC) := kz.cell 3
      have lz : w.heap.size < wr.heap.size := kz.lt
      have HZ := Lib.hid hwz
      have HKZ := Lib.hid kz
      clear kz hwz hbz'
      by_cases hm : m < cd.length
      rotate_left
      · have hme : m = cd.length := by omega
        have qm : decide ((m : Int) < (cd.length : Int)) = false := by simp; omega
        have hall' := hall.out
        rw [hme, List.drop_length, chkAll] at hall'
        have hck := HCK2.out
        rw [← hall'] at hck
        simp only at hck
        have HCK3 := Lib.hid (show (chkCode ars regs spills cd).2 = if (nestRun cd 0 []).2 then 15 else 0 by rw [hck]; split <;> rfl)
        clear hall' hck
        go_wp2_with fail
        refine (HPA.out wr HZ.out).mono ?_
        intro e V hpost
        obtain ⟨hbV, v, at_, rfl⟩ := part_err hpost
        have HV := Lib.hid (HZ.out.trans (hbV.mono HZ.out.size))
        clear hbV hpost
        obtain ⟨x, hx⟩ : ∃ x : Int, (if (nestRun cd 0 []).2 then 15 else 0) = x := ⟨_, rfl⟩
        rw [hx] at HCK3 ⊢
        clear hx
        go_wp2
        refine bodyPost_ret (by simp [results, Try.results31, go_sem]; try rfl) rfl ?_
        exact ⟨⟨at_, by rw [HCK3.out]⟩, HV.out⟩
      have qm : decide ((m : Int) < (cd.length : Int)) = true := by simp; omega
      have a0 : wr.cell? ⟨w.heap.size, 0, none⟩ = some (.slice arsA ars.length arsC) := HKZ.out.cell 0
      have a1 : wr.cell? ⟨w.heap.size, 0 + 1, none⟩ = some (.int .i64 regs) := HKZ.out.cell 1
      have a2 : wr.cell? ⟨w.heap.size, 0 + 1 + 1, none⟩ = some (.int .i64 spills) := HKZ.out.cell 2
      have a3' : wr.cell? ⟨w.heap.size, 0 + 1 + 1 + 1, none⟩ = some (.slice codeA cd.length codeC) := HKZ.out.cell 3
      obtain ⟨b, off, rfl, hb, hc⟩ := HCD.out m hm
      have hm' := nat_cast_ltQ hm
      have hbw : b < wr.heap.size := by omega
      have hc2 : ∀ j, j < 5 → wr.cell? ⟨b, off + m * 5 + j, none⟩ = some ((cd.getD m default).cell j) := fun j hj => by rw [HZ.out.cell (p := ⟨b, off + m * 5 + j, none⟩) hb]; exact hc j hj
      have hin := HARG.out (cd.getD m default) (by rw [List.getD_eq_getElem?_getD, List.getElem?_eq_getElem hm]; exact List.getElem_mem _)
      have hall' := hall.out
      rw [drop_next cd m hm, chkAll] at hall'
      obtain ⟨ins, hins⟩ : ∃ ins, cd.getD m default = ins := ⟨_, rfl⟩
      rw [hins] at hc2 hall' hin
      have HIA := Lib.hid (fun Z => instruction_any arsA (some ⟨b, off, none⟩) ars.length arsC cd.length codeC regs spills ins Z (by omega) hin)
      obtain ⟨op, to, ra, rb, arg⟩ := ins
      have k0 : wr.cell? ⟨b, off + m * 5, none⟩ = some (.int .i64 op) := hc2 0 (by omega)
      have k1 : wr.cell? ⟨b, off + m * 5 + 1, none⟩ = some (.int .i64 to) := hc2 1 (by omega)
      have k2 : wr.cell? ⟨b, off + m * 5 + 1 + 1, none⟩ = some (.int .i64 ra) := hc2 2 (by omega)
      have k3 : wr.cell? ⟨b, off + m * 5 + 1 + 1 + 1, none⟩ = some (.int .i64 rb) := hc2 3 (by omega)
      have k4 : wr.cell? ⟨b, off + m * 5 + 1 + 1 + 1 + 1, none⟩ = some (.int .u32 arg) := hc2 4 (by omega)
      obtain ⟨ce, hce⟩ : ∃ ce, chkI regs spills (ars.length : Int) ⟨op, to, ra, rb, arg⟩ = ce := ⟨_, rfl⟩
      rw [hce] at hall' HIA
      have HALL := Lib.hid hall'
      clear hc hc2 hall' hins hce hall
      go_wp2_with fail
      refine wp_region_keeps [1, 3, 4] [(2, 1), (2, 3), (1, 0), (1, 2), (2, 4), (1, 5), (0, 6), (0, 7)] (by kernel_rfl) (by kernel_rfl) (fun c a d v w h => by cases d <;> exact h) ?_
      simp only [getPlan, List.filterMap_cons, List.filterMap_nil, List.getElem?_toArray, List.getElem?_cons_succ, List.getElem?_cons_zero, Option.map_some]
      repeat ((first | refine wpPlanK_pure (fun K hK => ?_) | refine wpPlanK_float (fun K hK => ?_)); go_simp; refine hK _ ?_; clear hK K)
      clear k0 k1 k2 k3 k4 a0 a1 a2 a3 a3'
      refine wpPlanK_keep ?_
      go_wp2_with fail
      refine (HIA.out wr.drew).mono ?_
      rintro e V ⟨rfl, hbV⟩
      have hbV' : Below wr.heap.size wr V := below_undrew hbV
      have HV := Lib.hid hbV'
      clear hbV hbV'
      go_wp2_with fail
      refine ⟨grew_below HV.out, ?_⟩
      refine wpPlanK_keep ?_
      go_wp2_with fail
      refine ⟨grew_below HV.out, ?_⟩
      refine wpPlanK_nil ?_
      by_cases hce : ce = 0
      · have qc : (ce != 0) = false := by simpa using hce
        have hall2 := HALL.out
        rw [if_neg (by simpa using hce)] at hall2
        have HALL2 := Lib.hid hall2
        clear hall2 hce
        go_wp2
        go_roundw
        case rel => exact ⟨m + 1, by simp, by omega, HALL2, Lib.hid (hbz.out.trans (HV.out.mono hbz.out.size))⟩
        case measure => simp [intOf]; omega
      · have qc : (ce != 0) = true := by simpa using hce
        have hall2 := HALL.out
        rw [if_pos hce] at hall2
        have hck := HCK2.out
        rw [← hall2] at hck
        have HCK3 := Lib.hid (show (chkCode ars regs spills cd).2 = ce by rw [hck])
        clear hall2 hce hck
        go_wp2
        refine bodyPost_ret (by simp [results, Try.results31, go_sem]; try rfl) rfl ?_
        exact ⟨⟨_, by rw [HCK3.out]⟩, HZ.out.trans (HV.out.mono HZ.out.size)⟩
end Go.Proofs.Ytefdnjhhaejgbaa

namespace Go.Proofs.Ytefdnjhhaejgbaa
open Go.RowKit
set_option linter.unusedVariables false
def rcells (L : Lay) (c : MC) (s : PS) (er : Int) (ov : Value) : List Value :=
  [.slice L.arsA c.ars.length L.arsC, .int .i64 c.regs, .int .i64 c.spills, .slice L.codeA c.cd.length L.codeC, .slice L.ptA c.cd.length L.ptC, .slice L.arrA s.arr.length L.arrC,
   .slice (some ⟨L.cb, 0, none⟩) s.ctx.length L.ccap, .int .u32 c.input, .bool c.ended, .int .i64 c.fuel, .slice (some ⟨L.rb, 0, none⟩) s.regs.length s.regs.length, .slice (some ⟨L.sb, 0, none⟩) s.spl.length s.spl.length,
   ov, .int .i64 s.steps, .int .i64 er]
structure RRO (B : Nat) (L : Lay) (c : MC) (rp : List Int) (w : World) : Prop where
  code : RowB B w 5 L.codeA c.cd.length fun i j => (c.cd.getD i default).cell j
  pt : RowB B w 1 L.ptA c.cd.length fun i _ => .int .i64 (rp.getD i 0)
  ars : RowB B w 2 L.arsA c.ars.length fun i j => (c.ars.getD i default).cell j
structure RRep (B : Nat) (L : Lay) (c : MC) (rp : List Int) (s : PS) (er : Int) (τ : Nat → Nat) (ov : Value) (w : World) : Prop where
  ro : RRO B L c rp w
  hB : B ≤ w.heap.size
  mac : Blk w L.mb (rcells L c s er ov) 106
  reg : Blk w L.rb (ints .u32 s.regs) 42
  spl : Blk w L.sb (ints .u32 s.spl) 42
  ctx : ∃ t, Blk w L.cb (ints .u32 s.ctx ++ t) 42
  arr : ∀ k, k < s.arr.length → ∃ t, Blk w (L.ab k) (ints .u32 (s.arr.getD k []) ++ t) 42
  outer : ∀ k, k < s.arr.length → ∃ q qo, L.arrA = some ⟨q, qo, none⟩ ∧ τ q = 4 ∧ q < w.heap.size ∧ w.cell? ⟨q, qo + k, none⟩ = some (.slice (some ⟨L.ab k, 0, none⟩) (s.arr.getD k []).length (L.acap k))
  oown : w.ownsRow B 5 1 ov s.out.length (ints .u8 s.out)
  tm : τ L.mb = 0
  tr : τ L.rb = 1
  ts : τ L.sb = 2
  tc : τ L.cb = 3
  ta : ∀ k, k < s.arr.length → τ (L.ab k) = 7 + k
  to : ∀ g, ov.ownBlock = some g → τ g = 6
  bm : B ≤ L.mb
  br : B ≤ L.rb
  bs : B ≤ L.sb
  bc : B ≤ L.cb
  ba : ∀ k, k < s.arr.length → B ≤ L.ab k
theorem RRep.lt {B : Nat} {L : Lay} {c : MC} {s : PS} {rp : List Int} {er : Int} {τ : Nat → Nat} {ov : Value} {w : World} (h : RRep B L c rp s er τ ov w) : L.mb < w.heap.size ∧ L.rb < w.heap.size ∧ L.sb < w.heap.size ∧ L.cb < w.heap.size :=
  ⟨h.mac.lt, h.reg.lt, h.spl.lt, by obtain ⟨t, ht⟩ := h.ctx; exact ht.lt⟩
theorem RRep.below {B : Nat} {L : Lay} {c : MC} {s : PS} {rp : List Int} {er : Int} {τ : Nat → Nat} {ov : Value} {w w' : World} (h : RRep B L c rp s er τ ov w) (hb : Below w.heap.size w w') : RRep B L c rp s er τ ov w' := by
  have hB := h.hB
  have hbB := hb.mono hB
  have hg : w.grownBy w' none := grownBy_of_below hb none
  exact {
    ro := ⟨h.ro.code.below hbB, h.ro.pt.below hbB, h.ro.ars.below hbB⟩
    hB := Nat.le_trans hB hb.size
    mac := h.mac.below hb h.mac.lt
    reg := h.reg.below hb h.reg.lt
    spl := h.spl.below hb h.spl.lt
    ctx := by obtain ⟨t, ht⟩ := h.ctx; exact ⟨t, ht.below hb ht.lt⟩
    arr := fun k hk => by obtain ⟨t, ht⟩ := h.arr k hk; exact ⟨t, ht.below hb ht.lt⟩
    outer := fun k hk => by
      obtain ⟨q, qo, h1, h2, h3, h4⟩ := h.outer k hk
      exact ⟨q, qo, h1, h2, Nat.lt_of_lt_of_le h3 hb.size, by rw [hb.cell (p := ⟨q, qo + k, none⟩) h3]; exact h4⟩
    oown := h.oown.kept hg (by cases hv : ov.ownBlock <;> simp)
    tm := h.tm, tr := h.tr, ts := h.ts, tc := h.tc, ta := h.ta, to := h.to, bm := h.bm, br := h.br, bs := h.bs, bc := h.bc, ba := h.ba }
theorem RRep.setReg {B : Nat} {L : Lay} {c : MC} {s : PS} {rp : List Int} {er : Int} {τ : Nat → Nat} {ov : Value} {w : World} (h : RRep B L c rp s er τ ov w) {r : Nat} (hr : r < s.regs.length) (v : Int) :
    RRep B L c rp { s with regs := s.regs.set r v } er τ ov (w.setCell ⟨L.rb, 0 + r, none⟩ (.int .u32 v)) := by
  have hg : w.grownBy (w.setCell ⟨L.rb, 0 + r, none⟩ (.int .u32 v)) (some L.rb) := ⟨rfl, rfl, rfl, by simp [World.setCell], fun k _ hk => Below.heap_setCell _ _ _ _ (fun e => hk (by rw [e]))⟩
  have hbB : Below B w (w.setCell ⟨L.rb, 0 + r, none⟩ (.int .u32 v)) := (Below.refl _ _).setCell h.br _
  exact {
    ro := ⟨h.ro.code.below hbB, h.ro.pt.below hbB, h.ro.ars.below hbB⟩,
    hB := by simp [World.setCell]; exact h.hB,
    mac := by have := h.mac.other (a := ⟨L.rb, 0 + r, none⟩) (ne_tag h.tm h.tr (by omega)) (.int .u32 v); simpa [rcells] using this,
    reg := by have := h.reg.set (0 + r) (.int .u32 v); rw [Nat.zero_add, ints_set] at this; rw [Nat.zero_add]; exact this,
    spl := h.spl.other (ne_tag h.ts h.tr (by omega)) _,
    ctx := by obtain ⟨t, ht⟩ := h.ctx; exact ⟨t, ht.other (ne_tag h.tc h.tr (by omega)) _⟩,
    arr := fun k hk => by obtain ⟨t, ht⟩ := h.arr k hk; exact ⟨t, ht.other (ne_tag (h.ta k hk) h.tr (by omega)) _⟩,
    outer := fun k hk => by
      obtain ⟨q, qo, h1, h2, h3, h4⟩ := h.outer k hk
      exact ⟨q, qo, h1, h2, by simp [World.setCell]; exact h3, by rw [World.cell?_of_block (Below.heap_setCell _ _ _ _ (ne_tag h2 h.tr (by omega)))]; exact h4⟩,
    oown := h.oown.kept hg (by
      cases hv : ov.ownBlock with
      | none => exact .inl rfl
      | some g => right; intro e; exact (ne_tag (h.to g hv) h.tr (by omega)) (Option.some.inj e)),
    tm := h.tm,
    tr := h.tr,
    ts := h.ts,
    tc := h.tc,
    ta := h.ta,
    to := h.to,
    bm := h.bm,
    br := h.br,
    bs := h.bs,
    bc := h.bc,
    ba := h.ba }
theorem RRep.setSpl {B : Nat} {L : Lay} {c : MC} {s : PS} {rp : List Int} {er : Int} {τ : Nat → Nat} {ov : Value} {w : World} (h : RRep B L c rp s er τ ov w) {r : Nat} (hr : r < s.spl.length) (v : Int) :
    RRep B L c rp { s with spl := s.spl.set r v } er τ ov (w.setCell ⟨L.sb, 0 + r, none⟩ (.int .u32 v)) := by
  have hg : w.grownBy (w.setCell ⟨L.sb, 0 + r, none⟩ (.int .u32 v)) (some L.sb) := ⟨rfl, rfl, rfl, by simp [World.setCell], fun k _ hk => Below.heap_setCell _ _ _ _ (fun e => hk (by rw [e]))⟩
  have hbB : Below B w (w.setCell ⟨L.sb, 0 + r, none⟩ (.int .u32 v)) := (Below.refl _ _).setCell h.bs _
  exact {
    ro := ⟨h.ro.code.below hbB, h.ro.pt.below hbB, h.ro.ars.below hbB⟩,
    hB := by simp [World.setCell]; exact h.hB,
    mac := by have := h.mac.other (a := ⟨L.sb, 0 + r, none⟩) (ne_tag h.tm h.ts (by omega)) (.int .u32 v); simpa [rcells] using this,
    reg := h.reg.other (ne_tag h.tr h.ts (by omega)) _,
    spl := by have := h.spl.set (0 + r) (.int .u32 v); rw [Nat.zero_add, ints_set] at this; rw [Nat.zero_add]; exact this,
    ctx := by obtain ⟨t, ht⟩ := h.ctx; exact ⟨t, ht.other (ne_tag h.tc h.ts (by omega)) _⟩,
    arr := fun k hk => by obtain ⟨t, ht⟩ := h.arr k hk; exact ⟨t, ht.other (ne_tag (h.ta k hk) h.ts (by omega)) _⟩,
    outer := fun k hk => by
      obtain ⟨q, qo, h1, h2, h3, h4⟩ := h.outer k hk
      exact ⟨q, qo, h1, h2, by simp [World.setCell]; exact h3, by rw [World.cell?_of_block (Below.heap_setCell _ _ _ _ (ne_tag h2 h.ts (by omega)))]; exact h4⟩,
    oown := h.oown.kept hg (by
      cases hv : ov.ownBlock with
      | none => exact .inl rfl
      | some g => right; intro e; exact (ne_tag (h.to g hv) h.ts (by omega)) (Option.some.inj e)),
    tm := h.tm,
    tr := h.tr,
    ts := h.ts,
    tc := h.tc,
    ta := h.ta,
    to := h.to,
    bm := h.bm,
    br := h.br,
    bs := h.bs,
    bc := h.bc,
    ba := h.ba }
theorem RRep.setCtx {B : Nat} {L : Lay} {c : MC} {s : PS} {rp : List Int} {er : Int} {τ : Nat → Nat} {ov : Value} {w : World} (h : RRep B L c rp s er τ ov w) {r : Nat} (hr : r < s.ctx.length) (v : Int) :
    RRep B L c rp { s with ctx := s.ctx.set r v } er τ ov (w.setCell ⟨L.cb, 0 + r, none⟩ (.int .u32 v)) := by
  have hg : w.grownBy (w.setCell ⟨L.cb, 0 + r, none⟩ (.int .u32 v)) (some L.cb) := ⟨rfl, rfl, rfl, by simp [World.setCell], fun k _ hk => Below.heap_setCell _ _ _ _ (fun e => hk (by rw [e]))⟩
  have hbB : Below B w (w.setCell ⟨L.cb, 0 + r, none⟩ (.int .u32 v)) := (Below.refl _ _).setCell h.bc _
  exact {
    ro := ⟨h.ro.code.below hbB, h.ro.pt.below hbB, h.ro.ars.below hbB⟩,
    hB := by simp [World.setCell]; exact h.hB,
    mac := by have := h.mac.other (a := ⟨L.cb, 0 + r, none⟩) (ne_tag h.tm h.tc (by omega)) (.int .u32 v); simpa [rcells] using this,
    reg := h.reg.other (ne_tag h.tr h.tc (by omega)) _,
    spl := h.spl.other (ne_tag h.ts h.tc (by omega)) _,
    ctx := by obtain ⟨t, ht⟩ := h.ctx; have := ht.set (0 + r) (.int .u32 v); rw [Nat.zero_add, ints_set_app _ _ _ _ hr] at this; rw [Nat.zero_add]; exact ⟨t, this⟩,
    arr := fun k hk => by obtain ⟨t, ht⟩ := h.arr k hk; exact ⟨t, ht.other (ne_tag (h.ta k hk) h.tc (by omega)) _⟩,
    outer := fun k hk => by
      obtain ⟨q, qo, h1, h2, h3, h4⟩ := h.outer k hk
      exact ⟨q, qo, h1, h2, by simp [World.setCell]; exact h3, by rw [World.cell?_of_block (Below.heap_setCell _ _ _ _ (ne_tag h2 h.tc (by omega)))]; exact h4⟩,
    oown := h.oown.kept hg (by
      cases hv : ov.ownBlock with
      | none => exact .inl rfl
      | some g => right; intro e; exact (ne_tag (h.to g hv) h.tc (by omega)) (Option.some.inj e)),
    tm := h.tm,
    tr := h.tr,
    ts := h.ts,
    tc := h.tc,
    ta := h.ta,
    to := h.to,
    bm := h.bm,
    br := h.br,
    bs := h.bs,
    bc := h.bc,
    ba := h.ba }
theorem RRep.setArr {B : Nat} {L : Lay} {c : MC} {s : PS} {rp : List Int} {er : Int} {τ : Nat → Nat} {ov : Value} {w : World} (h : RRep B L c rp s er τ ov w) {k0 r : Nat} (hk0 : k0 < s.arr.length) (hr : r < (s.arr.getD k0 []).length) (v : Int) :
    RRep B L c rp { s with arr := s.arr.set k0 ((s.arr.getD k0 []).set r v) } er τ ov (w.setCell ⟨L.ab k0, 0 + r, none⟩ (.int .u32 v)) := by
  have hg : w.grownBy (w.setCell ⟨L.ab k0, 0 + r, none⟩ (.int .u32 v)) (some (L.ab k0)) := ⟨rfl, rfl, rfl, by simp [World.setCell], fun k _ hk => Below.heap_setCell _ _ _ _ (fun e => hk (by rw [e]))⟩
  have hbB : Below B w (w.setCell ⟨L.ab k0, 0 + r, none⟩ (.int .u32 v)) := (Below.refl _ _).setCell (h.ba k0 hk0) _
  exact {
    ro := ⟨h.ro.code.below hbB, h.ro.pt.below hbB, h.ro.ars.below hbB⟩,
    hB := by simp [World.setCell]; exact h.hB,
    mac := by have := h.mac.other (a := ⟨L.ab k0, 0 + r, none⟩) (ne_tag h.tm (h.ta k0 hk0) (by omega)) (.int .u32 v); simpa [rcells] using this,
    reg := h.reg.other (ne_tag h.tr (h.ta k0 hk0) (by omega)) _,
    spl := h.spl.other (ne_tag h.ts (h.ta k0 hk0) (by omega)) _,
    ctx := by obtain ⟨t, ht⟩ := h.ctx; exact ⟨t, ht.other (ne_tag h.tc (h.ta k0 hk0) (by omega)) _⟩,
    arr := fun k hk => by
      have hk' : k < s.arr.length := by simpa using hk
      by_cases hkk : k = k0
      · subst hkk
        obtain ⟨t, ht⟩ := h.arr k hk'
        have := ht.set (0 + r) (.int .u32 v)
        rw [Nat.zero_add, ints_set_app _ _ _ _ hr] at this
        rw [Nat.zero_add]
        refine ⟨t, ?_⟩
        simpa [List.getD_eq_getElem?_getD, List.getElem?_set, hk'] using this
      · obtain ⟨t, ht⟩ := h.arr k hk'
        refine ⟨t, ?_⟩
        have h2 := ht.other (a := ⟨L.ab k0, 0 + r, none⟩) (ne_tag (h.ta k hk') (h.ta k0 hk0) (by omega)) (.int .u32 v)
        simpa [List.getD_eq_getElem?_getD, List.getElem?_set, Ne.symm hkk] using h2,
    outer := fun k hk => by
      have hk' : k < s.arr.length := by simpa using hk
      obtain ⟨q, qo, h1, h2, h3, h4⟩ := h.outer k hk'
      refine ⟨q, qo, h1, h2, by simp [World.setCell]; exact h3, ?_⟩
      rw [World.cell?_of_block (Below.heap_setCell _ _ _ _ (ne_tag h2 (h.ta k0 hk0) (by omega))), h4]
      by_cases hkk : k = k0
      · subst hkk; simp [List.getD_eq_getElem?_getD, hk']
      · simp [List.getD_eq_getElem?_getD, Ne.symm hkk],
    oown := h.oown.kept hg (by
      cases hv : ov.ownBlock with
      | none => exact .inl rfl
      | some g => right; intro e; exact (ne_tag (h.to g hv) (h.ta k0 hk0) (by omega)) (Option.some.inj e)),
    tm := h.tm,
    tr := h.tr,
    ts := h.ts,
    tc := h.tc,
    ta := fun k hk => h.ta k (by simpa using hk),
    to := h.to,
    bm := h.bm,
    br := h.br,
    bs := h.bs,
    bc := h.bc,
    ba := fun k hk => h.ba k (by simpa using hk) }
theorem RRep.setSteps {B : Nat} {L : Lay} {c : MC} {s : PS} {rp : List Int} {er : Int} {τ : Nat → Nat} {ov : Value} {w : World} (h : RRep B L c rp s er τ ov w) (p : Int) :
    RRep B L c rp { s with steps := p } er τ ov (w.setCell ⟨L.mb, 13, none⟩ (.int .i64 p)) := by
  have hg : w.grownBy (w.setCell ⟨L.mb, 13, none⟩ (.int .i64 p)) (some L.mb) := ⟨rfl, rfl, rfl, by simp [World.setCell], fun k _ hk => Below.heap_setCell _ _ _ _ (fun e => hk (by rw [e]))⟩
  have hbB : Below B w (w.setCell ⟨L.mb, 13, none⟩ (.int .i64 p)) := (Below.refl _ _).setCell h.bm _
  exact {
    ro := ⟨h.ro.code.below hbB, h.ro.pt.below hbB, h.ro.ars.below hbB⟩,
    hB := by simp [World.setCell]; exact h.hB,
    mac := by have := h.mac.set 13 (.int .i64 p); simpa [rcells] using this,
    reg := h.reg.other (ne_tag h.tr h.tm (by omega)) _,
    spl := h.spl.other (ne_tag h.ts h.tm (by omega)) _,
    ctx := by obtain ⟨t, ht⟩ := h.ctx; exact ⟨t, ht.other (ne_tag h.tc h.tm (by omega)) _⟩,
    arr := fun k hk => by obtain ⟨t, ht⟩ := h.arr k hk; exact ⟨t, ht.other (ne_tag (h.ta k hk) h.tm (by omega)) _⟩,
    outer := fun k hk => by
      obtain ⟨q, qo, h1, h2, h3, h4⟩ := h.outer k hk
      exact ⟨q, qo, h1, h2, by simp [World.setCell]; exact h3, by rw [World.cell?_of_block (Below.heap_setCell _ _ _ _ (ne_tag h2 h.tm (by omega)))]; exact h4⟩,
    oown := h.oown.kept hg (by
      cases hv : ov.ownBlock with
      | none => exact .inl rfl
      | some g => right; intro e; exact (ne_tag (h.to g hv) h.tm (by omega)) (Option.some.inj e)),
    tm := h.tm,
    tr := h.tr,
    ts := h.ts,
    tc := h.tc,
    ta := h.ta,
    to := h.to,
    bm := h.bm,
    br := h.br,
    bs := h.bs,
    bc := h.bc,
    ba := h.ba }
theorem RRep.setErr {B : Nat} {L : Lay} {c : MC} {s : PS} {rp : List Int} {er : Int} {τ : Nat → Nat} {ov : Value} {w : World} (h : RRep B L c rp s er τ ov w) (p : Int) :
    RRep B L c rp s p τ ov (w.setCell ⟨L.mb, 14, none⟩ (.int .i64 p)) := by
  have hg : w.grownBy (w.setCell ⟨L.mb, 14, none⟩ (.int .i64 p)) (some L.mb) := ⟨rfl, rfl, rfl, by simp [World.setCell], fun k _ hk => Below.heap_setCell _ _ _ _ (fun e => hk (by rw [e]))⟩
  have hbB : Below B w (w.setCell ⟨L.mb, 14, none⟩ (.int .i64 p)) := (Below.refl _ _).setCell h.bm _
  exact {
    ro := ⟨h.ro.code.below hbB, h.ro.pt.below hbB, h.ro.ars.below hbB⟩,
    hB := by simp [World.setCell]; exact h.hB,
    mac := by have := h.mac.set 14 (.int .i64 p); simpa [rcells] using this,
    reg := h.reg.other (ne_tag h.tr h.tm (by omega)) _,
    spl := h.spl.other (ne_tag h.ts h.tm (by omega)) _,
    ctx := by obtain ⟨t, ht⟩ := h.ctx; exact ⟨t, ht.other (ne_tag h.tc h.tm (by omega)) _⟩,
    arr := fun k hk => by obtain ⟨t, ht⟩ := h.arr k hk; exact ⟨t, ht.other (ne_tag (h.ta k hk) h.tm (by omega)) _⟩,
    outer := fun k hk => by
      obtain ⟨q, qo, h1, h2, h3, h4⟩ := h.outer k hk
      exact ⟨q, qo, h1, h2, by simp [World.setCell]; exact h3, by rw [World.cell?_of_block (Below.heap_setCell _ _ _ _ (ne_tag h2 h.tm (by omega)))]; exact h4⟩,
    oown := h.oown.kept hg (by
      cases hv : ov.ownBlock with
      | none => exact .inl rfl
      | some g => right; intro e; exact (ne_tag (h.to g hv) h.tm (by omega)) (Option.some.inj e)),
    tm := h.tm,
    tr := h.tr,
    ts := h.ts,
    tc := h.tc,
    ta := h.ta,
    to := h.to,
    bm := h.bm,
    br := h.br,
    bs := h.bs,
    bc := h.bc,
    ba := h.ba }
theorem RRep.foreign {B : Nat} {L : Lay} {c : MC} {s : PS} {rp : List Int} {er : Int} {τ : Nat → Nat} {ov : Value} {w : World} (h : RRep B L c rp s er τ ov w) {x : Nat} (hx : 1000 ≤ τ x) (hxB : B ≤ x) (hn : s.arr.length ≤ 900) (j : Nat) (v : Value) :
    RRep B L c rp s er τ ov (w.setCell ⟨x, j, none⟩ v) := by
  have hg : w.grownBy (w.setCell ⟨x, j, none⟩ v) (some x) := ⟨rfl, rfl, rfl, by simp [World.setCell], fun k _ hk => Below.heap_setCell _ _ _ _ (fun e => hk (by rw [e]))⟩
  have hbB : Below B w (w.setCell ⟨x, j, none⟩ v) := (Below.refl _ _).setCell hxB _
  exact {
    ro := ⟨h.ro.code.below hbB, h.ro.pt.below hbB, h.ro.ars.below hbB⟩,
    hB := by simp [World.setCell]; exact h.hB,
    mac := h.mac.other (ne_tag (b := x) (y := τ x) h.tm rfl (by omega)) _,
    reg := h.reg.other (ne_tag (b := x) (y := τ x) h.tr rfl (by omega)) _,
    spl := h.spl.other (ne_tag (b := x) (y := τ x) h.ts rfl (by omega)) _,
    ctx := by obtain ⟨t, ht⟩ := h.ctx; exact ⟨t, ht.other (ne_tag (b := x) (y := τ x) h.tc rfl (by omega)) _⟩,
    arr := fun k hk => by obtain ⟨t, ht⟩ := h.arr k hk; exact ⟨t, ht.other (ne_tag (b := x) (y := τ x) (h.ta k hk) rfl (by omega)) _⟩,
    outer := fun k hk => by
      obtain ⟨q, qo, h1, h2, h3, h4⟩ := h.outer k hk
      exact ⟨q, qo, h1, h2, by simp [World.setCell]; exact h3, by rw [World.cell?_of_block (Below.heap_setCell _ _ _ _ (ne_tag (b := x) (y := τ x) h2 rfl (by omega)))]; exact h4⟩,
    oown := h.oown.kept hg (by
      cases hv : ov.ownBlock with
      | none => exact .inl rfl
      | some g => right; intro e; exact (ne_tag (b := x) (y := τ x) (h.to g hv) rfl (by omega)) (Option.some.inj e)),
    tm := h.tm,
    tr := h.tr,
    ts := h.ts,
    tc := h.tc,
    ta := h.ta,
    to := h.to,
    bm := h.bm,
    br := h.br,
    bs := h.bs,
    bc := h.bc,
    ba := h.ba }
theorem RRep.growOut {B : Nat} {L : Lay} {c : MC} {s : PS} {rp : List Int} {er : Int} {τ : Nat → Nat} {ov : Value} {w w1 : World} (h : RRep B L c rp s er τ ov w) (x : Int) {g cc : Nat}
    (hown1 : w1.ownsRow B 5 1 (.slice (some ⟨g, 0, none⟩) (s.out.length + 1) cc) (s.out.length + 1) (ints .u8 s.out ++ [.int .u8 x])) (hg : w.grownBy w1 ov.ownBlock) (hat : ov.ownBlock = some g ∨ w.heap.size ≤ g) :
    RRep B L c rp { s with out := s.out ++ [x] } er (fun x => if x = g then 6 else τ x) (.slice (some ⟨g, 0, none⟩) (s.out.length + 1) cc) (w1.setCell ⟨L.mb, 12, none⟩ (.slice (some ⟨g, 0, none⟩) (s.out.length + 1) cc)) := by
  have old : ∀ x t, x < w.heap.size → τ x = t → t ≠ 6 → x ≠ g ∧ some x ≠ ov.ownBlock := by
    intro x t hx ht hne
    refine ⟨fun e => ?_, fun e => hne (by rw [← ht]; exact h.to x e.symm)⟩
    subst e
    rcases hat with hat | hat
    · exact hne (by rw [← ht]; exact h.to x hat)
    · omega
  have om := old L.mb 0 h.mac.lt h.tm (by omega)
  have orr := old L.rb 1 h.reg.lt h.tr (by omega)
  have os := old L.sb 2 h.spl.lt h.ts (by omega)
  have oc := old L.cb 3 h.lt.2.2.2 h.tc (by omega)
  have oa : ∀ k, k < s.arr.length → L.ab k ≠ g ∧ some (L.ab k) ≠ ov.ownBlock := fun k hk => by
    obtain ⟨t, ht⟩ := h.arr k hk
    exact old (L.ab k) (7 + k) ht.lt (h.ta k hk) (by omega)
  have hgB : Below B w w1 := below_grown hg h.hB (fun k hk => (h.oown.lt k hk).1)
  have hbB : Below B w (w1.setCell ⟨L.mb, 12, none⟩ (.slice (some ⟨g, 0, none⟩) (s.out.length + 1) cc)) := hgB.setCell h.bm _
  have hgm : g ≠ L.mb := Ne.symm om.1
  have hs2 : w1.grownBy (w1.setCell ⟨L.mb, 12, none⟩ (.slice (some ⟨g, 0, none⟩) (s.out.length + 1) cc)) (some L.mb) := ⟨rfl, rfl, rfl, by simp [World.setCell], fun k _ hk => Below.heap_setCell _ _ _ _ (fun e => hk (by rw [e]))⟩
  have hown2 := hown1.kept hs2 (.inr (by simp [Value.ownBlock]; exact hgm))
  have hmac := (h.mac.grown hg om.2).set 12 (.slice (some ⟨g, 0, none⟩) (s.out.length + 1) cc)
  exact {
    ro := ⟨h.ro.code.below hbB, h.ro.pt.below hbB, h.ro.ars.below hbB⟩
    hB := Nat.le_trans h.hB hbB.size
    mac := by simpa [rcells] using hmac
    reg := (h.reg.grown hg orr.2).other (ne_tag h.tr h.tm (by omega)) _
    spl := (h.spl.grown hg os.2).other (ne_tag h.ts h.tm (by omega)) _
    ctx := by obtain ⟨t, ht⟩ := h.ctx; exact ⟨t, (ht.grown hg oc.2).other (ne_tag h.tc h.tm (by omega)) _⟩
    arr := fun k hk => by obtain ⟨t, ht⟩ := h.arr k hk; exact ⟨t, (ht.grown hg (oa k hk).2).other (ne_tag (h.ta k hk) h.tm (by omega)) _⟩
    outer := fun k hk => by
      obtain ⟨q, qo, h1, h2, h3, h4⟩ := h.outer k hk
      have oq := old q 4 h3 h2 (by omega)
      refine ⟨q, qo, h1, by simp [oq.1, h2], Nat.lt_of_lt_of_le h3 hbB.size, ?_⟩
      rw [World.cell?_of_block (Below.heap_setCell _ _ _ _ (ne_tag h2 h.tm (by omega)))]
      exact hg.cell h4 oq.2
    oown := by rw [show ints .u8 (s.out ++ [x]) = ints .u8 s.out ++ [.int .u8 x] by simp [ints]]; simpa using hown2
    tm := by simp [om.1, h.tm]
    tr := by simp [orr.1, h.tr]
    ts := by simp [os.1, h.ts]
    tc := by simp [oc.1, h.tc]
    ta := fun k hk => by simp [(oa k hk).1, h.ta k hk]
    to := fun x hx => by simp [Value.ownBlock] at hx; simp [hx]
    bm := h.bm, br := h.br, bs := h.bs, bc := h.bc, ba := h.ba }
def Keep (B : Nat) (τ τ' : Nat → Nat) (w w' : World) : Prop := Below B w w' ∧ ∀ k, k < w.heap.size → 1000 ≤ τ k → τ' k = τ k ∧ w'.heap[k]? = w.heap[k]?
theorem Keep.refl (B : Nat) (τ : Nat → Nat) (w : World) : Keep B τ τ w w := ⟨Below.refl _ _, fun _ _ _ => ⟨rfl, rfl⟩⟩
theorem Keep.trans {B : Nat} {τ τ' τ'' : Nat → Nat} {w w' w'' : World} (h : Keep B τ τ' w w') (h' : Keep B τ' τ'' w' w'') : Keep B τ τ'' w w'' :=
  ⟨h.1.trans h'.1, fun k hk ht => by
    obtain ⟨a, b⟩ := h.2 k hk ht
    obtain ⟨c, d⟩ := h'.2 k (Nat.lt_of_lt_of_le hk h.1.size) (by omega)
    exact ⟨by omega, by rw [d, b]⟩⟩
theorem Keep.blk {B : Nat} {τ τ' : Nat → Nat} {w w' : World} (h : Keep B τ τ' w w') {b : Nat} {cs : List Value} {t : TypeId} (hb : Blk w b cs t) (ht : 1000 ≤ τ b) : Blk w' b cs t := by
  unfold Blk; rw [(h.2 b hb.lt ht).2]; exact hb
def retag (τ : Nat → Nat) (n : Nat) : Nat → Nat := fun x => if n ≤ x then 1000 else τ x
theorem retag_lt {τ : Nat → Nat} {n x : Nat} (h : x < n) : retag τ n x = τ x := if_neg (by omega)
theorem retag_ge {τ : Nat → Nat} {n x : Nat} (h : n ≤ x) : retag τ n x = 1000 := if_pos h
theorem RRep.retag {B : Nat} {L : Lay} {c : MC} {rp : List Int} {s : PS} {er : Int} {τ : Nat → Nat} {ov : Value} {w : World} (h : RRep B L c rp s er τ ov w) : RRep B L c rp s er (Proofs.Ytefdnjhhaejgbaa.retag τ w.heap.size) ov w :=
  { h with
    outer := fun k hk => by
      obtain ⟨q, qo, h1, h2, h3, h4⟩ := h.outer k hk
      exact ⟨q, qo, h1, by rw [retag_lt h3]; exact h2, h3, h4⟩
    tm := by rw [retag_lt h.mac.lt]; exact h.tm
    tr := by rw [retag_lt h.reg.lt]; exact h.tr
    ts := by rw [retag_lt h.spl.lt]; exact h.ts
    tc := by rw [retag_lt h.lt.2.2.2]; exact h.tc
    ta := fun k hk => by
      obtain ⟨t, ht⟩ := h.arr k hk
      rw [retag_lt ht.lt]; exact h.ta k hk
    to := fun g hg => by rw [retag_lt (h.oown.lt g hg).2]; exact h.to g hg }
theorem Keep.retag {B : Nat} {τ τ' : Nat → Nat} {w w' : World} (h : Keep B (Proofs.Ytefdnjhhaejgbaa.retag τ w.heap.size) τ' w w') : Keep B τ τ' w w' :=
  ⟨h.1, fun k hk ht => by have := h.2 k hk (by rw [retag_lt hk]; exact ht); rw [retag_lt hk] at this; exact this⟩
theorem Keep.below {B : Nat} {τ : Nat → Nat} {w w' : World} (hb : Below w.heap.size w w') (hB : B ≤ w.heap.size) : Keep B τ τ w w' := ⟨hb.mono hB, fun k hk _ => ⟨rfl, hb.block k hk⟩⟩
end Go.Proofs.Ytefdnjhhaejgbaa

namespace Go.Proofs.Ytefdnjhhaejgbaa
open Go.RowKit
set_option linter.unusedVariables false
def RSt (B : Nat) (L : Lay) (c : MC) (rp : List Int) (τ : Nat → Nat) (w : World) (s : PS) (er : Int) (w' : World) : Prop := ∃ τ' ov', RRep B L c rp s er τ' ov' w' ∧ Keep B τ τ' w w'
theorem RSt.here {B : Nat} {L : Lay} {c : MC} {rp : List Int} {τ : Nat → Nat} {ov : Value} {w : World} {s : PS} {er : Int} (R : RRep B L c rp s er τ ov w) : RSt B L c rp τ w s er w := ⟨τ, ov, R, Keep.refl _ _ _⟩
theorem Keep.set {B : Nat} {τ : Nat → Nat} {w : World} {x j : Nat} {v : Value} (hB : B ≤ x) (ht : τ x < 1000) : Keep B τ τ w (w.setCell ⟨x, j, none⟩ v) :=
  ⟨(Below.refl _ _).setCell hB _, fun k hk hk2 => ⟨rfl, Below.heap_setCell _ _ _ _ (fun e => by have e' : k = x := e; rw [e'] at hk2; omega)⟩⟩
def tickPost (c : MC) (s : PS) : PS × Int := match tick c s with
  | .ok s1 => (s1, 0)
  | .error n => (s, n)
set_option maxRecDepth 100000 in
set_option maxHeartbeats 1000000 in
theorem rstep_any (B : Nat) (L : Lay) (c : MC) (rp : List Int) (s : PS) (τ : Nat → Nat) (ov : Value) (w : World) (R : RRep B L c rp s 0 τ ov w) (h0 : 0 ≤ s.steps) (hf : c.fuel ≤ 281474976710656) :
    Calls Try.prog 89 #[.pointer (some ⟨L.mb, 0, none⟩)] w fun e w' => e = .returned (.tuple #[]) ∧ RSt B L c rp τ w (tickPost c s).1 (tickPost c s).2 w' := by
  have c13 : w.cell? ⟨L.mb, 13, none⟩ = some (.int .i64 s.steps) := R.mac.cell 13
  have c14 : w.cell? ⟨L.mb, 14, none⟩ = some (.int .i64 0) := R.mac.cell 14
  have c9 : w.cell? ⟨L.mb, 9, none⟩ = some (.int .i64 c.fuel) := R.mac.cell 9
  have f13 := R.mac.frozen 13
  have f14 := R.mac.frozen 14
  have hlt := R.mac.lt
  have HR := Lib.hid R
  clear R
  by_cases hst : s.steps < c.fuel
  · have HT := Lib.hid (show tickPost c s = ({ s with steps := s.steps + 1 }, 0) by unfold tickPost tick; rw [if_pos hst])
    have q : decide (c.fuel ≤ s.steps) = false := by simp; omega
    go_enter Try.func89, Try.ntmps89
    go_wp2_with fail
    refine wp_region_grew [3, 8] [0, 1, 2, 4, 5, 6, 7, 9] [(2, 0), (2, 1), (2, 2), (2, 4), (2, 5), (2, 6), (2, 7), (1, 3), (1, 8), (2, 9)] (by kernel_rfl) (by kernel_rfl) (fun c a d v w h => by cases d <;> exact h) ?_
    simp only [getPlan, List.filterMap_cons, List.filterMap_nil, List.getElem?_toArray, List.getElem?_cons_succ, List.getElem?_cons_zero, Option.map_some]
    repeat ((first | refine wpPlan_pure (fun K hK => ?_) | refine wpPlan_float (fun K hK => ?_)); go_simp; refine hK _ ?_; clear hK K)
    refine wpPlan_nil ?_
    go_wp2
    refine bodyPost_end (results_none rfl _ _ _) rfl ?_
    exact ⟨rfl, by rw [HT.out]; exact ⟨τ, ov, (HR.out.below (Below.refl _ _).drew).setSteps _, (Keep.below (Below.refl _ _).drew HR.out.hB).trans (Keep.set HR.out.bm (by rw [HR.out.tm]; omega))⟩⟩
  · have HT := Lib.hid (show tickPost c s = (s, 19) by unfold tickPost tick; rw [if_neg hst])
    have q : decide (c.fuel ≤ s.steps) = true := by simp; omega
    go_enter Try.func89, Try.ntmps89
    go_wp2_with fail
    refine wp_region_grew [3, 8] [0, 1, 2, 4, 5, 6, 7, 9] [(2, 0), (2, 1), (2, 2), (2, 4), (2, 5), (2, 6), (2, 7), (1, 3), (1, 8), (2, 9)] (by kernel_rfl) (by kernel_rfl) (fun c a d v w h => by cases d <;> exact h) ?_
    simp only [getPlan, List.filterMap_cons, List.filterMap_nil, List.getElem?_toArray, List.getElem?_cons_succ, List.getElem?_cons_zero, Option.map_some]
    repeat ((first | refine wpPlan_pure (fun K hK => ?_) | refine wpPlan_float (fun K hK => ?_)); go_simp; refine hK _ ?_; clear hK K)
    refine wpPlan_nil ?_
    go_wp2
    refine bodyPost_ret (results_none rfl _ _ _) rfl ?_
    exact ⟨rfl, by rw [HT.out]; exact ⟨τ, ov, (HR.out.below (Below.refl _ _).drew).setErr _, (Keep.below (Below.refl _ _).drew HR.out.hB).trans (Keep.set HR.out.bm (by rw [HR.out.tm]; omega))⟩⟩
set_option maxRecDepth 100000 in
set_option maxHeartbeats 1000000 in
theorem rread_any (B : Nat) (L : Lay) (c : MC) (rp : List Int) (s : PS) (er : Int) (τ : Nat → Nat) (ov : Value) (w : World) (R : RRep B L c rp s er τ ov w) (r : Int) (hr : r < 0 ∨ r < s.regs.length) :
    Calls Try.prog 90 #[.pointer (some ⟨L.mb, 0, none⟩), .int .i64 r] w fun e w' => e = .returned (.int .u32 (s.get r)) ∧ w' = w := by
  by_cases h0 : r < 0
  · have HG := Lib.hid (show s.get r = 0 by unfold PS.get; rw [if_pos h0])
    have q : decide (r < 0) = true := by simpa using h0
    go_enter Try.func90, Try.ntmps90
    go_wp2
    go_ret
    exact ⟨by rw [HG.out]; rfl, rfl⟩
  · obtain ⟨n, rfl⟩ : ∃ n : Nat, r = (n : Int) := ⟨r.toNat, by omega⟩
    have hn : n < s.regs.length := by omega
    have c10 : w.cell? ⟨L.mb, 10, none⟩ = some (.slice (some ⟨L.rb, 0, none⟩) s.regs.length s.regs.length) := R.mac.cell 10
    have cr : w.cell? ⟨L.rb, n, none⟩ = some (.int .u32 (s.regs.getD n 0)) := by rw [R.reg.cell, ints_get hn]
    have HG := Lib.hid (show s.get (n : Int) = s.regs.getD n 0 by unfold PS.get; rw [if_neg h0, Int.toNat_natCast])
    have hlt := R.mac.lt
    have hlr := R.reg.lt
    have hk := nat_cast_ltQ hn
    have q : decide ((n : Int) < 0) = false := by simp
    generalize s.regs.getD n 0 = x at cr HG
    clear hr h0 R
    go_enter Try.func90, Try.ntmps90
    go_wp2
    go_ret
    exact ⟨by rw [HG.out]; rfl, rfl⟩
set_option maxRecDepth 100000 in
set_option maxHeartbeats 1000000 in
theorem relement_any (B : Nat) (L : Lay) (c : MC) (rp : List Int) (s : PS) (τ : Nat → Nat) (ov : Value) (w : World) (R : RRep B L c rp s 0 τ ov w) (k : Nat) (x : Int) (hk : k < s.arr.length) (hx : 0 ≤ x ∧ x < 4294967296) (hk32 : s.arr.length ≤ 8) (hsz : (s.arr.getD k []).length ≤ 65536) :
    Calls Try.prog 111 #[.pointer (some ⟨L.mb, 0, none⟩), .int .u32 (k : Int), .int .u32 x] w fun e w' => e = .returned (.bool (decide (x.toNat < (s.arr.getD k []).length))) ∧ RSt B L c rp τ w s (if x.toNat < (s.arr.getD k []).length then 0 else 16) w' := by
  obtain ⟨n, rfl⟩ : ∃ n : Nat, x = (n : Int) := ⟨x.toNat, by omega⟩
  rw [Int.toNat_natCast]
  obtain ⟨q, qo, hA, hq, hql, hqc⟩ := R.outer k hk
  obtain ⟨m, hm⟩ : ∃ m, (s.arr.getD k []).length = m := ⟨_, rfl⟩
  rw [hm] at hqc hsz ⊢
  have c5 : w.cell? ⟨L.mb, 5, none⟩ = some (.slice (some ⟨q, qo, none⟩) s.arr.length L.arrC) := by rw [← hA]; exact R.mac.cell 5
  have c14 : w.cell? ⟨L.mb, 14, none⟩ = some (.int .i64 0) := R.mac.cell 14
  have f14 := R.mac.frozen 14
  have hlt := R.mac.lt
  have hk' := nat_cast_ltQ hk
  have HR := Lib.hid R
  clear R hA hm
  by_cases hin : n < m
  · have qi : decide ((m : Int) ≤ (n : Int)) = false := by simp; omega
    have HI := Lib.hid hin
    go_enter Try.func111, Try.ntmps111
    go_wp2
    go_ret
    exact ⟨rfl, RSt.here HR.out⟩
  · have qi : decide ((m : Int) ≤ (n : Int)) = true := by simp; omega
    have HI := Lib.hid hin
    have hmn : m ≤ n := by omega
    go_enter Try.func111, Try.ntmps111
    go_wp2
    go_ret
    exact ⟨rfl, τ, ov, HR.out.setErr _, Keep.set HR.out.bm (by rw [HR.out.tm]; omega)⟩
end Go.Proofs.Ytefdnjhhaejgbaa

namespace Go.Proofs.Ytefdnjhhaejgbaa
open Go.RowKit
set_option linter.unusedVariables false
def effPost (c : MC) (s : PS) (i : RI) : PS × Int := match effect c s i with
  | .ok s' => (s', 0)
  | .error n => (s, n)
structure PlW (B : Nat) (L : Lay) (c : MC) (rp : List Int) (s : PS) (τ : Nat → Nat) (ov : Value) (w : World) (i : RI) (W : World) : Prop where
  bel : Below w.heap.size w W
  box : Blk W w.heap.size i.cells 61
  rep : RRep B L c rp s 0 τ ov W
theorem PlW.done {B : Nat} {L : Lay} {c : MC} {rp : List Int} {s : PS} {τ : Nat → Nat} {ov : Value} {w W : World} {i : RI} (h : PlW B L c rp s τ ov w i W) (hB : B ≤ w.heap.size) {s' : PS} {er : Int} {τ' : Nat → Nat} {ov' : Value} {W' : World} (R : RRep B L c rp s' er τ' ov' W') (K : Keep B τ τ' W W') : RSt B L c rp τ w s' er W' :=
  ⟨τ', ov', R, (Keep.below h.bel hB).trans K⟩
theorem Keep.drew {B : Nat} {τ : Nat → Nat} {w : World} : Keep B τ τ w w.drew := ⟨(Below.refl _ _).drew, fun _ _ _ => ⟨rfl, rfl⟩⟩
theorem RRep.drew {B : Nat} {L : Lay} {c : MC} {rp : List Int} {s : PS} {er : Int} {τ : Nat → Nat} {ov : Value} {w : World} (h : RRep B L c rp s er τ ov w) : RRep B L c rp s er τ ov w.drew := h.below (Below.refl _ _).drew
theorem RRep.reg' {B : Nat} {L : Lay} {c : MC} {rp : List Int} {s : PS} {er : Int} {τ : Nat → Nat} {ov : Value} {w : World} (h : RRep B L c rp s er τ ov w) {r : Nat} (hr : r < s.regs.length) (v : Int) :
    RRep B L c rp { s with regs := s.regs.set r v } er τ ov (w.setCell ⟨L.rb, r, none⟩ (.int .u32 v)) := by have := h.setReg hr v; rwa [Nat.zero_add] at this
set_option maxRecDepth 100000 in
set_option maxHeartbeats 1000000 in
theorem rplain_0 (B : Nat) (L : Lay) (c : MC) (rp : List Int) (s : PS) (τ : Nat → Nat) (ov : Value) (w : World) (R : RRep B L c rp s 0 τ ov w) (F : Fine c s) (to ra rb arg : Int) (ha : ra < 0 ∨ ra < c.regs) (hbr : rb < 0 ∨ rb < c.regs) (harg : 0 ≤ arg ∧ arg < 4294967296) (hto : 0 ≤ to ∧ to < c.regs) :
    Calls Try.prog 92 #[.pointer (some ⟨L.mb, 0, none⟩), .agg #[.int .i64 0, .int .i64 to, .int .i64 ra, .int .i64 rb, .int .u32 arg]] w fun e w' => e = .returned (.tuple #[]) ∧ RSt B L c rp τ w (effPost c s ⟨0, to, ra, rb, arg⟩).1 (effPost c s ⟨0, to, ra, rb, arg⟩).2 w' := by
  have hreg := F.regs
  obtain ⟨xa, hxa⟩ : ∃ xa, s.get ra = xa := ⟨_, rfl⟩
  obtain ⟨xb, hxb⟩ : ∃ xb, s.get rb = xb := ⟨_, rfl⟩
  have ua := F.get ra
  have ub := F.get rb
  rw [hxa] at ua
  rw [hxb] at ub
  have HX := Lib.hid (And.intro hxa hxb)
  have HRD := Lib.hid (fun W (R1 : RRep B L c rp s 0 τ ov W) (r : Int) (hr : r < 0 ∨ r < c.regs) => rread_any B L c rp s 0 τ ov W R1 r (by omega))
  have HF := Lib.hid F
  have HB := Lib.hid R.hB
  obtain ⟨t, rfl⟩ : ∃ t : Nat, to = (t : Int) := ⟨to.toNat, by omega⟩
  have ht : t < s.regs.length := by omega
  have ht' := nat_cast_ltQ ht
  have HE := Lib.hid (show effPost c s ⟨0, (t : Int), ra, rb, arg⟩ = ({ s with regs := s.regs.set t arg }, 0) by simp [effPost, effect, PS.put])
  have HR := Lib.hid R
  clear hxa hxb F R
  go_enter Try.func92, Try.ntmps92
  go_upto_region 1 with (fail)
  refine wp_gen (fun W => PlW B L c rp s τ ov w ⟨0, (t : Int), ra, rb, arg⟩ W) ?_ ?_
  · have hb : Below w.heap.size w (w.alloc (.cells #[.int .i64 0, .int .i64 (t : Int), .int .i64 ra, .int .i64 rb, .int .u32 arg] 61)) := (Below.refl _ _).alloc (Nat.le_refl _) _
    exact ⟨hb, heap_new1 _ _, HR.out.below hb⟩
  intro W P
  have b2 : W.cell? ⟨w.heap.size, 2, none⟩ = some (.int .i64 ra) := P.box.cell 2
  have b3 : W.cell? ⟨w.heap.size, 3, none⟩ = some (.int .i64 rb) := P.box.cell 3
  have lb : w.heap.size < W.heap.size := P.box.lt
  have HP := Lib.hid P
  clear P HR
  go_wp2_with fail
  refine wp_region_keeps [0, 1, 4, 5] [(2, 0), (2, 1), (2, 4), (2, 5), (1, 2), (1, 6), (0, 3), (0, 7), (0, 8), (0, 9)] (by kernel_rfl) (by kernel_rfl) (fun c a d v w h => by cases d <;> exact h) ?_
  simp only [getPlan, List.filterMap_cons, List.filterMap_nil, List.getElem?_toArray, List.getElem?_cons_succ, List.getElem?_cons_zero, Option.map_some]
  repeat ((first | refine wpPlanK_pure (fun K hK => ?_) | refine wpPlanK_float (fun K hK => ?_)); go_simp; refine hK _ ?_; clear hK K)
  clear b2 b3
  refine wpPlanK_keep ?_
  go_wp2_with fail
  refine (HRD.out W.drew HP.out.rep.drew ra ha).mono ?_
  rintro e W' ⟨rfl, rfl⟩
  go_wp2_with fail
  refine ⟨grew_below (Below.refl _ _).drew, ?_⟩
  refine wpPlanK_keep ?_
  go_wp2_with fail
  refine (HRD.out W.drew HP.out.rep.drew rb hbr).mono ?_
  rintro e W' ⟨rfl, rfl⟩
  go_wp2_with fail
  refine ⟨grew_below (Below.refl _ _).drew, ?_⟩
  refine wpPlanK_keep ?_
  go_wp2_with fail
  refine ⟨grew_below (Below.refl _ _).drew, ?_⟩
  refine wpPlanK_keep ?_
  go_wp2_with fail
  refine ⟨grew_below (Below.refl _ _).drew, ?_⟩
  refine wpPlanK_nil ?_
  rw [HX.out.1, HX.out.2]
  go_upto_region 2 with (fail)
  refine wp_gen (fun V => PlW B L c rp s τ ov w ⟨0, (t : Int), ra, rb, arg⟩ V) ⟨HP.out.bel.drew, HP.out.box.drew, HP.out.rep.drew⟩ ?_
  clear HP lb W
  intro W P
  have b0 : W.cell? ⟨w.heap.size, 0, none⟩ = some (.int .i64 0) := P.box.cell 0
  have b1 : W.cell? ⟨w.heap.size, 1, none⟩ = some (.int .i64 (t : Int)) := P.box.cell 1
  have b4 : W.cell? ⟨w.heap.size, 4, none⟩ = some (.int .u32 arg) := P.box.cell 4
  have lb : w.heap.size < W.heap.size := P.box.lt
  have lm : L.mb < W.heap.size := P.rep.mac.lt
  have lr : L.rb < W.heap.size := P.rep.reg.lt
  have c10 : W.cell? ⟨L.mb, 10, none⟩ = some (.slice (some ⟨L.rb, 0, none⟩) s.regs.length s.regs.length) := P.rep.mac.cell 10
  have ct : W.cell? ⟨L.rb, t, none⟩ = some (.int .u32 (s.regs.getD t 0)) := by rw [P.rep.reg.cell, ints_get ht]
  have ft := P.rep.reg.frozen t
  generalize s.regs.getD t 0 = y at ct
  have HP := Lib.hid P
  clear P
  go_wp2_with fail
  refine wp_region_grew [3, 5, 7] [0, 1, 2, 4, 6, 8] [(2, 0), (2, 1), (2, 2), (2, 4), (2, 6), (1, 3), (1, 5), (1, 7), (2, 8), (0, 9)] (by kernel_rfl) (by kernel_rfl) (fun c a d v w h => by cases d <;> exact h) ?_
  simp only [getPlan, List.filterMap_cons, List.filterMap_nil, List.getElem?_toArray, List.getElem?_cons_succ, List.getElem?_cons_zero, Option.map_some]
  repeat ((first | refine wpPlan_pure (fun K hK => ?_) | refine wpPlan_float (fun K hK => ?_)); go_simp; refine hK _ ?_; clear hK K)
  refine wpPlan_tail (by kernel_rfl) ?_
  simp only [List.map_cons, List.map_nil]
  go_wp2
  refine bodyPost_end (results_none rfl _ _ _) rfl ?_
  exact ⟨rfl, by rw [HE.out]; exact HP.out.done HB.out (HP.out.rep.drew.reg' ht _) (Keep.drew.trans (Keep.set HP.out.rep.br (by rw [HP.out.rep.tr]; omega)))⟩
set_option maxRecDepth 100000 in
set_option maxHeartbeats 1000000 in
theorem rplain_36 (B : Nat) (L : Lay) (c : MC) (rp : List Int) (s : PS) (τ : Nat → Nat) (ov : Value) (w : World) (R : RRep B L c rp s 0 τ ov w) (F : Fine c s) (to ra rb arg : Int) (ha : ra < 0 ∨ ra < c.regs) (hbr : rb < 0 ∨ rb < c.regs) (harg : 0 ≤ arg ∧ arg < 4294967296) (hto : 0 ≤ to ∧ to < c.regs) :
    Calls Try.prog 92 #[.pointer (some ⟨L.mb, 0, none⟩), .agg #[.int .i64 36, .int .i64 to, .int .i64 ra, .int .i64 rb, .int .u32 arg]] w fun e w' => e = .returned (.tuple #[]) ∧ RSt B L c rp τ w (effPost c s ⟨36, to, ra, rb, arg⟩).1 (effPost c s ⟨36, to, ra, rb, arg⟩).2 w' := by
  have hreg := F.regs
  obtain ⟨xa, hxa⟩ : ∃ xa, s.get ra = xa := ⟨_, rfl⟩
  obtain ⟨xb, hxb⟩ : ∃ xb, s.get rb = xb := ⟨_, rfl⟩
  have ua := F.get ra
  have ub := F.get rb
  rw [hxa] at ua
  rw [hxb] at ub
  have HX := Lib.hid (And.intro hxa hxb)
  have HRD := Lib.hid (fun W (R1 : RRep B L c rp s 0 τ ov W) (r : Int) (hr : r < 0 ∨ r < c.regs) => rread_any B L c rp s 0 τ ov W R1 r (by omega))
  have HF := Lib.hid F
  have HB := Lib.hid R.hB
  obtain ⟨t, rfl⟩ : ∃ t : Nat, to = (t : Int) := ⟨to.toNat, by omega⟩
  have ht : t < s.regs.length := by omega
  have ht' := nat_cast_ltQ ht
  have HE := Lib.hid (show effPost c s ⟨36, (t : Int), ra, rb, arg⟩ = ({ s with regs := s.regs.set t xa }, 0) by simp [effPost, effect, PS.put, hxa])
  have HR := Lib.hid R
  clear hxa hxb F R
  go_enter Try.func92, Try.ntmps92
  go_upto_region 1 with (fail)
  refine wp_gen (fun W => PlW B L c rp s τ ov w ⟨36, (t : Int), ra, rb, arg⟩ W) ?_ ?_
  · have hb : Below w.heap.size w (w.alloc (.cells #[.int .i64 36, .int .i64 (t : Int), .int .i64 ra, .int .i64 rb, .int .u32 arg] 61)) := (Below.refl _ _).alloc (Nat.le_refl _) _
    exact ⟨hb, heap_new1 _ _, HR.out.below hb⟩
  intro W P
  have b2 : W.cell? ⟨w.heap.size, 2, none⟩ = some (.int .i64 ra) := P.box.cell 2
  have b3 : W.cell? ⟨w.heap.size, 3, none⟩ = some (.int .i64 rb) := P.box.cell 3
  have lb : w.heap.size < W.heap.size := P.box.lt
  have HP := Lib.hid P
  clear P HR
  go_wp2_with fail
  refine wp_region_keeps [0, 1, 4, 5] [(2, 0), (2, 1), (2, 4), (2, 5), (1, 2), (1, 6), (0, 3), (0, 7), (0, 8), (0, 9)] (by kernel_rfl) (by kernel_rfl) (fun c a d v w h => by cases d <;> exact h) ?_
  simp only [getPlan, List.filterMap_cons, List.filterMap_nil, List.getElem?_toArray, List.getElem?_cons_succ, List.getElem?_cons_zero, Option.map_some]
  repeat ((first | refine wpPlanK_pure (fun K hK => ?_) | refine wpPlanK_float (fun K hK => ?_)); go_simp; refine hK _ ?_; clear hK K)
  clear b2 b3
  refine wpPlanK_keep ?_
  go_wp2_with fail
  refine (HRD.out W.drew HP.out.rep.drew ra ha).mono ?_
  rintro e W' ⟨rfl, rfl⟩
  go_wp2_with fail
  refine ⟨grew_below (Below.refl _ _).drew, ?_⟩
  refine wpPlanK_keep ?_
  go_wp2_with fail
  refine (HRD.out W.drew HP.out.rep.drew rb hbr).mono ?_
  rintro e W' ⟨rfl, rfl⟩
  go_wp2_with fail
  refine ⟨grew_below (Below.refl _ _).drew, ?_⟩
  refine wpPlanK_keep ?_
  go_wp2_with fail
  refine ⟨grew_below (Below.refl _ _).drew, ?_⟩
  refine wpPlanK_keep ?_
  go_wp2_with fail
  refine ⟨grew_below (Below.refl _ _).drew, ?_⟩
  refine wpPlanK_nil ?_
  rw [HX.out.1, HX.out.2]
  go_upto_region 2 with (fail)
  refine wp_gen (fun V => PlW B L c rp s τ ov w ⟨36, (t : Int), ra, rb, arg⟩ V) ⟨HP.out.bel.drew, HP.out.box.drew, HP.out.rep.drew⟩ ?_
  clear HP lb W
  intro W P
  have b0 : W.cell? ⟨w.heap.size, 0, none⟩ = some (.int .i64 36) := P.box.cell 0
  have b1 : W.cell? ⟨w.heap.size, 1, none⟩ = some (.int .i64 (t : Int)) := P.box.cell 1
  have b4 : W.cell? ⟨w.heap.size, 4, none⟩ = some (.int .u32 arg) := P.box.cell 4
  have lb : w.heap.size < W.heap.size := P.box.lt
  have lm : L.mb < W.heap.size := P.rep.mac.lt
  have lr : L.rb < W.heap.size := P.rep.reg.lt
  have c10 : W.cell? ⟨L.mb, 10, none⟩ = some (.slice (some ⟨L.rb, 0, none⟩) s.regs.length s.regs.length) := P.rep.mac.cell 10
  have ct : W.cell? ⟨L.rb, t, none⟩ = some (.int .u32 (s.regs.getD t 0)) := by rw [P.rep.reg.cell, ints_get ht]
  have ft := P.rep.reg.frozen t
  generalize s.regs.getD t 0 = y at ct
  have HP := Lib.hid P
  clear P
  go_wp2_with fail
  refine wp_region_grew [3, 5] [0, 1, 2, 4, 6, 7] [(2, 0), (2, 1), (2, 2), (2, 4), (2, 6), (1, 3), (1, 5), (2, 7), (0, 8)] (by kernel_rfl) (by kernel_rfl) (fun c a d v w h => by cases d <;> exact h) ?_
  simp only [getPlan, List.filterMap_cons, List.filterMap_nil, List.getElem?_toArray, List.getElem?_cons_succ, List.getElem?_cons_zero, Option.map_some]
  repeat ((first | refine wpPlan_pure (fun K hK => ?_) | refine wpPlan_float (fun K hK => ?_)); go_simp; refine hK _ ?_; clear hK K)
  refine wpPlan_tail (by kernel_rfl) ?_
  simp only [List.map_cons, List.map_nil]
  go_wp2
  refine bodyPost_end (results_none rfl _ _ _) rfl ?_
  exact ⟨rfl, by rw [HE.out]; exact HP.out.done HB.out (HP.out.rep.drew.reg' ht _) (Keep.drew.trans (Keep.set HP.out.rep.br (by rw [HP.out.rep.tr]; omega)))⟩
set_option maxRecDepth 100000 in
set_option maxHeartbeats 1000000 in
theorem rplain_37 (B : Nat) (L : Lay) (c : MC) (rp : List Int) (s : PS) (τ : Nat → Nat) (ov : Value) (w : World) (R : RRep B L c rp s 0 τ ov w) (F : Fine c s) (to ra rb arg : Int) (ha : ra < 0 ∨ ra < c.regs) (hbr : rb < 0 ∨ rb < c.regs) (harg : 0 ≤ arg ∧ arg < 4294967296) (hsp : arg < c.spills) :
    Calls Try.prog 92 #[.pointer (some ⟨L.mb, 0, none⟩), .agg #[.int .i64 37, .int .i64 to, .int .i64 ra, .int .i64 rb, .int .u32 arg]] w fun e w' => e = .returned (.tuple #[]) ∧ RSt B L c rp τ w (effPost c s ⟨37, to, ra, rb, arg⟩).1 (effPost c s ⟨37, to, ra, rb, arg⟩).2 w' := by
  have hreg := F.regs
  obtain ⟨xa, hxa⟩ : ∃ xa, s.get ra = xa := ⟨_, rfl⟩
  obtain ⟨xb, hxb⟩ : ∃ xb, s.get rb = xb := ⟨_, rfl⟩
  have ua := F.get ra
  have ub := F.get rb
  rw [hxa] at ua
  rw [hxb] at ub
  have HX := Lib.hid (And.intro hxa hxb)
  have HRD := Lib.hid (fun W (R1 : RRep B L c rp s 0 τ ov W) (r : Int) (hr : r < 0 ∨ r < c.regs) => rread_any B L c rp s 0 τ ov W R1 r (by omega))
  have HF := Lib.hid F
  have HB := Lib.hid R.hB
  obtain ⟨n, rfl⟩ : ∃ n : Nat, arg = (n : Int) := ⟨arg.toNat, by omega⟩
  have hspl := F.spl
  have hn : n < s.spl.length := by omega
  have hn' := nat_cast_ltQ hn
  have HE := Lib.hid (show effPost c s ⟨37, to, ra, rb, (n : Int)⟩ = ({ s with spl := s.spl.set n xa }, 0) by simp [effPost, effect, hxa])
  have HR := Lib.hid R
  clear hxa hxb F R
  go_enter Try.func92, Try.ntmps92
  go_upto_region 1 with (fail)
  refine wp_gen (fun W => PlW B L c rp s τ ov w ⟨37, to, ra, rb, (n : Int)⟩ W) ?_ ?_
  · have hb : Below w.heap.size w (w.alloc (.cells #[.int .i64 37, .int .i64 to, .int .i64 ra, .int .i64 rb, .int .u32 (n : Int)] 61)) := (Below.refl _ _).alloc (Nat.le_refl _) _
    exact ⟨hb, heap_new1 _ _, HR.out.below hb⟩
  intro W P
  have b2 : W.cell? ⟨w.heap.size, 2, none⟩ = some (.int .i64 ra) := P.box.cell 2
  have b3 : W.cell? ⟨w.heap.size, 3, none⟩ = some (.int .i64 rb) := P.box.cell 3
  have lb : w.heap.size < W.heap.size := P.box.lt
  have HP := Lib.hid P
  clear P HR
  go_wp2_with fail
  refine wp_region_keeps [0, 1, 4, 5] [(2, 0), (2, 1), (2, 4), (2, 5), (1, 2), (1, 6), (0, 3), (0, 7), (0, 8), (0, 9)] (by kernel_rfl) (by kernel_rfl) (fun c a d v w h => by cases d <;> exact h) ?_
  simp only [getPlan, List.filterMap_cons, List.filterMap_nil, List.getElem?_toArray, List.getElem?_cons_succ, List.getElem?_cons_zero, Option.map_some]
  repeat ((first | refine wpPlanK_pure (fun K hK => ?_) | refine wpPlanK_float (fun K hK => ?_)); go_simp; refine hK _ ?_; clear hK K)
  clear b2 b3
  refine wpPlanK_keep ?_
  go_wp2_with fail
  refine (HRD.out W.drew HP.out.rep.drew ra ha).mono ?_
  rintro e W' ⟨rfl, rfl⟩
  go_wp2_with fail
  refine ⟨grew_below (Below.refl _ _).drew, ?_⟩
  refine wpPlanK_keep ?_
  go_wp2_with fail
  refine (HRD.out W.drew HP.out.rep.drew rb hbr).mono ?_
  rintro e W' ⟨rfl, rfl⟩
  go_wp2_with fail
  refine ⟨grew_below (Below.refl _ _).drew, ?_⟩
  refine wpPlanK_keep ?_
  go_wp2_with fail
  refine ⟨grew_below (Below.refl _ _).drew, ?_⟩
  refine wpPlanK_keep ?_
  go_wp2_with fail
  refine ⟨grew_below (Below.refl _ _).drew, ?_⟩
  refine wpPlanK_nil ?_
  rw [HX.out.1, HX.out.2]
  go_upto_region 2 with (fail)
  refine wp_gen (fun V => PlW B L c rp s τ ov w ⟨37, to, ra, rb, (n : Int)⟩ V) ⟨HP.out.bel.drew, HP.out.box.drew, HP.out.rep.drew⟩ ?_
  clear HP lb W
  intro W P
  have b0 : W.cell? ⟨w.heap.size, 0, none⟩ = some (.int .i64 37) := P.box.cell 0
  have b1 : W.cell? ⟨w.heap.size, 1, none⟩ = some (.int .i64 to) := P.box.cell 1
  have b4 : W.cell? ⟨w.heap.size, 4, none⟩ = some (.int .u32 (n : Int)) := P.box.cell 4
  have lb : w.heap.size < W.heap.size := P.box.lt
  have lm : L.mb < W.heap.size := P.rep.mac.lt
  have lr : L.rb < W.heap.size := P.rep.reg.lt
  have c10 : W.cell? ⟨L.mb, 10, none⟩ = some (.slice (some ⟨L.rb, 0, none⟩) s.regs.length s.regs.length) := P.rep.mac.cell 10
  have c11 : W.cell? ⟨L.mb, 11, none⟩ = some (.slice (some ⟨L.sb, 0, none⟩) s.spl.length s.spl.length) := P.rep.mac.cell 11
  have ls : L.sb < W.heap.size := P.rep.spl.lt
  have ct : W.cell? ⟨L.sb, n, none⟩ = some (.int .u32 (s.spl.getD n 0)) := by rw [P.rep.spl.cell, ints_get hn]
  have ft := P.rep.spl.frozen n
  generalize s.spl.getD n 0 = y at ct
  have HP := Lib.hid P
  clear P
  go_wp2_with fail
  refine wp_region_grew [3, 5] [0, 1, 2, 4, 6, 7] [(2, 0), (2, 1), (2, 2), (2, 4), (2, 6), (1, 3), (1, 5), (2, 7), (0, 8)] (by kernel_rfl) (by kernel_rfl) (fun c a d v w h => by cases d <;> exact h) ?_
  simp only [getPlan, List.filterMap_cons, List.filterMap_nil, List.getElem?_toArray, List.getElem?_cons_succ, List.getElem?_cons_zero, Option.map_some]
  repeat ((first | refine wpPlan_pure (fun K hK => ?_) | refine wpPlan_float (fun K hK => ?_)); go_simp; refine hK _ ?_; clear hK K)
  refine wpPlan_tail (by kernel_rfl) ?_
  simp only [List.map_cons, List.map_nil]
  go_wp2
  refine bodyPost_end (results_none rfl _ _ _) rfl ?_
  exact ⟨rfl, by rw [HE.out]; exact HP.out.done HB.out (by have := HP.out.rep.drew.setSpl hn xa; rwa [Nat.zero_add] at this) (Keep.drew.trans (Keep.set HP.out.rep.bs (by rw [HP.out.rep.ts]; omega)))⟩
set_option maxRecDepth 100000 in
set_option maxHeartbeats 1000000 in
theorem rplain_38 (B : Nat) (L : Lay) (c : MC) (rp : List Int) (s : PS) (τ : Nat → Nat) (ov : Value) (w : World) (R : RRep B L c rp s 0 τ ov w) (F : Fine c s) (to ra rb arg : Int) (ha : ra < 0 ∨ ra < c.regs) (hbr : rb < 0 ∨ rb < c.regs) (harg : 0 ≤ arg ∧ arg < 4294967296) (hto : 0 ≤ to ∧ to < c.regs) (hsp : arg < c.spills) :
    Calls Try.prog 92 #[.pointer (some ⟨L.mb, 0, none⟩), .agg #[.int .i64 38, .int .i64 to, .int .i64 ra, .int .i64 rb, .int .u32 arg]] w fun e w' => e = .returned (.tuple #[]) ∧ RSt B L c rp τ w (effPost c s ⟨38, to, ra, rb, arg⟩).1 (effPost c s ⟨38, to, ra, rb, arg⟩).2 w' := by
  have hreg := F.regs
  obtain ⟨xa, hxa⟩ : ∃ xa, s.get ra = xa := ⟨_, rfl⟩
  obtain ⟨xb, hxb⟩ : ∃ xb, s.get rb = xb := ⟨_, rfl⟩
  have ua := F.get ra
  have ub := F.get rb
  rw [hxa] at ua
  rw [hxb] at ub
  have HX := Lib.hid (And.intro hxa hxb)
  have HRD := Lib.hid (fun W (R1 : RRep B L c rp s 0 τ ov W) (r : Int) (hr : r < 0 ∨ r < c.regs) => rread_any B L c rp s 0 τ ov W R1 r (by omega))
  have HF := Lib.hid F
  have HB := Lib.hid R.hB
  obtain ⟨t, rfl⟩ : ∃ t : Nat, to = (t : Int) := ⟨to.toNat, by omega⟩
  have ht : t < s.regs.length := by omega
  have ht' := nat_cast_ltQ ht
  obtain ⟨n, rfl⟩ : ∃ n : Nat, arg = (n : Int) := ⟨arg.toNat, by omega⟩
  have hspl := F.spl
  have hn : n < s.spl.length := by omega
  have hn' := nat_cast_ltQ hn
  obtain ⟨z, hz⟩ : ∃ z, s.spl.getD n 0 = z := ⟨_, rfl⟩
  have HE := Lib.hid (show effPost c s ⟨38, (t : Int), ra, rb, (n : Int)⟩ = ({ s with regs := s.regs.set t z }, 0) by rw [← hz]; simp [effPost, effect, PS.put])
  have HZ := Lib.hid hz
  clear hz
  have HR := Lib.hid R
  clear hxa hxb F R
  go_enter Try.func92, Try.ntmps92
  go_upto_region 1 with (fail)
  refine wp_gen (fun W => PlW B L c rp s τ ov w ⟨38, (t : Int), ra, rb, (n : Int)⟩ W) ?_ ?_
  · have hb : Below w.heap.size w (w.alloc (.cells #[.int .i64 38, .int .i64 (t : Int), .int .i64 ra, .int .i64 rb, .int .u32 (n : Int)] 61)) := (Below.refl _ _).alloc (Nat.le_refl _) _
    exact ⟨hb, heap_new1 _ _, HR.out.below hb⟩
  intro W P
  have b2 : W.cell? ⟨w.heap.size, 2, none⟩ = some (.int .i64 ra) := P.box.cell 2
  have b3 : W.cell? ⟨w.heap.size, 3, none⟩ = some (.int .i64 rb) := P.box.cell 3
  have lb : w.heap.size < W.heap.size := P.box.lt
  have HP := Lib.hid P
  clear P HR
  go_wp2_with fail
  refine wp_region_keeps [0, 1, 4, 5] [(2, 0), (2, 1), (2, 4), (2, 5), (1, 2), (1, 6), (0, 3), (0, 7), (0, 8), (0, 9)] (by kernel_rfl) (by kernel_rfl) (fun c a d v w h => by cases d <;> exact h) ?_
  simp only [getPlan, List.filterMap_cons, List.filterMap_nil, List.getElem?_toArray, List.getElem?_cons_succ, List.getElem?_cons_zero, Option.map_some]
  repeat ((first | refine wpPlanK_pure (fun K hK => ?_) | refine wpPlanK_float (fun K hK => ?_)); go_simp; refine hK _ ?_; clear hK K)
  clear b2 b3
  refine wpPlanK_keep ?_
  go_wp2_with fail
  refine (HRD.out W.drew HP.out.rep.drew ra ha).mono ?_
  rintro e W' ⟨rfl, rfl⟩
  go_wp2_with fail
  refine ⟨grew_below (Below.refl _ _).drew, ?_⟩
  refine wpPlanK_keep ?_
  go_wp2_with fail
  refine (HRD.out W.drew HP.out.rep.drew rb hbr).mono ?_
  rintro e W' ⟨rfl, rfl⟩
  go_wp2_with fail
  refine ⟨grew_below (Below.refl _ _).drew, ?_⟩
  refine wpPlanK_keep ?_
  go_wp2_with fail
  refine ⟨grew_below (Below.refl _ _).drew, ?_⟩
  refine wpPlanK_keep ?_
  go_wp2_with fail
  refine ⟨grew_below (Below.refl _ _).drew, ?_⟩
  refine wpPlanK_nil ?_
  rw [HX.out.1, HX.out.2]
  go_upto_region 2 with (fail)
  refine wp_gen (fun V => PlW B L c rp s τ ov w ⟨38, (t : Int), ra, rb, (n : Int)⟩ V) ⟨HP.out.bel.drew, HP.out.box.drew, HP.out.rep.drew⟩ ?_
  clear HP lb W
  intro W P
  have b0 : W.cell? ⟨w.heap.size, 0, none⟩ = some (.int .i64 38) := P.box.cell 0
  have b1 : W.cell? ⟨w.heap.size, 1, none⟩ = some (.int .i64 (t : Int)) := P.box.cell 1
  have b4 : W.cell? ⟨w.heap.size, 4, none⟩ = some (.int .u32 (n : Int)) := P.box.cell 4
  have lb : w.heap.size < W.heap.size := P.box.lt
  have lm : L.mb < W.heap.size := P.rep.mac.lt
  have lr : L.rb < W.heap.size := P.rep.reg.lt
  have c10 : W.cell? ⟨L.mb, 10, none⟩ = some (.slice (some ⟨L.rb, 0, none⟩) s.regs.length s.regs.length) := P.rep.mac.cell 10
  have c11 : W.cell? ⟨L.mb, 11, none⟩ = some (.slice (some ⟨L.sb, 0, none⟩) s.spl.length s.spl.length) := P.rep.mac.cell 11
  have ls : L.sb < W.heap.size := P.rep.spl.lt
  have cn : W.cell? ⟨L.sb, n, none⟩ = some (.int .u32 z) := by rw [P.rep.spl.cell, ints_get hn, HZ.out]
  have ct : W.cell? ⟨L.rb, t, none⟩ = some (.int .u32 (s.regs.getD t 0)) := by rw [P.rep.reg.cell, ints_get ht]
  have ft := P.rep.reg.frozen t
  generalize s.regs.getD t 0 = y at ct
  have HP := Lib.hid P
  clear P
  go_wp2_with fail
  refine wp_region_grew [3, 5, 9, 11, 13] [0, 1, 2, 4, 6, 7, 8, 10, 12, 14] [(2, 0), (2, 1), (2, 2), (2, 4), (2, 6), (2, 7), (2, 8), (2, 10), (1, 3), (1, 5), (1, 9), (1, 11), (2, 12), (1, 13), (2, 14), (0, 15)] (by kernel_rfl) (by kernel_rfl) (fun c a d v w h => by cases d <;> exact h) ?_
  simp only [getPlan, List.filterMap_cons, List.filterMap_nil, List.getElem?_toArray, List.getElem?_cons_succ, List.getElem?_cons_zero, Option.map_some]
  repeat ((first | refine wpPlan_pure (fun K hK => ?_) | refine wpPlan_float (fun K hK => ?_)); go_simp; refine hK _ ?_; clear hK K)
  refine wpPlan_tail (by kernel_rfl) ?_
  simp only [List.map_cons, List.map_nil]
  go_wp2
  refine bodyPost_end (results_none rfl _ _ _) rfl ?_
  exact ⟨rfl, by rw [HE.out]; exact HP.out.done HB.out (HP.out.rep.drew.reg' ht _) (Keep.drew.trans (Keep.set HP.out.rep.br (by rw [HP.out.rep.tr]; omega)))⟩
set_option maxRecDepth 100000 in
set_option maxHeartbeats 1000000 in
theorem rplain_32 (B : Nat) (L : Lay) (c : MC) (rp : List Int) (s : PS) (τ : Nat → Nat) (ov : Value) (w : World) (R : RRep B L c rp s 0 τ ov w) (F : Fine c s) (to ra rb arg : Int) (ha : ra < 0 ∨ ra < c.regs) (hbr : rb < 0 ∨ rb < c.regs) (harg : 0 ≤ arg ∧ arg < 4294967296) (hto : 0 ≤ to ∧ to < c.regs) :
    Calls Try.prog 92 #[.pointer (some ⟨L.mb, 0, none⟩), .agg #[.int .i64 32, .int .i64 to, .int .i64 ra, .int .i64 rb, .int .u32 arg]] w fun e w' => e = .returned (.tuple #[]) ∧ RSt B L c rp τ w (effPost c s ⟨32, to, ra, rb, arg⟩).1 (effPost c s ⟨32, to, ra, rb, arg⟩).2 w' := by
  have hreg := F.regs
  obtain ⟨xa, hxa⟩ : ∃ xa, s.get ra = xa := ⟨_, rfl⟩
  obtain ⟨xb, hxb⟩ : ∃ xb, s.get rb = xb := ⟨_, rfl⟩
  have ua := F.get ra
  have ub := F.get rb
  rw [hxa] at ua
  rw [hxb] at ub
  have HX := Lib.hid (And.intro hxa hxb)
  have HRD := Lib.hid (fun W (R1 : RRep B L c rp s 0 τ ov W) (r : Int) (hr : r < 0 ∨ r < c.regs) => rread_any B L c rp s 0 τ ov W R1 r (by omega))
  have HF := Lib.hid F
  have HB := Lib.hid R.hB
  obtain ⟨t, rfl⟩ : ∃ t : Nat, to = (t : Int) := ⟨to.toNat, by omega⟩
  have ht : t < s.regs.length := by omega
  have ht' := nat_cast_ltQ ht
  have HE := Lib.hid (show effPost c s ⟨32, (t : Int), ra, rb, arg⟩ = ({ s with regs := s.regs.set t c.input }, 0) by simp [effPost, effect, PS.put])
  have HR := Lib.hid R
  clear hxa hxb F R
  go_enter Try.func92, Try.ntmps92
  go_upto_region 1 with (fail)
  refine wp_gen (fun W => PlW B L c rp s τ ov w ⟨32, (t : Int), ra, rb, arg⟩ W) ?_ ?_
  · have hb : Below w.heap.size w (w.alloc (.cells #[.int .i64 32, .int .i64 (t : Int), .int .i64 ra, .int .i64 rb, .int .u32 arg] 61)) := (Below.refl _ _).alloc (Nat.le_refl _) _
    exact ⟨hb, heap_new1 _ _, HR.out.below hb⟩
  intro W P
  have b2 : W.cell? ⟨w.heap.size, 2, none⟩ = some (.int .i64 ra) := P.box.cell 2
  have b3 : W.cell? ⟨w.heap.size, 3, none⟩ = some (.int .i64 rb) := P.box.cell 3
  have lb : w.heap.size < W.heap.size := P.box.lt
  have HP := Lib.hid P
  clear P HR
  go_wp2_with fail
  refine wp_region_keeps [0, 1, 4, 5] [(2, 0), (2, 1), (2, 4), (2, 5), (1, 2), (1, 6), (0, 3), (0, 7), (0, 8), (0, 9)] (by kernel_rfl) (by kernel_rfl) (fun c a d v w h => by cases d <;> exact h) ?_
  simp only [getPlan, List.filterMap_cons, List.filterMap_nil, List.getElem?_toArray, List.getElem?_cons_succ, List.getElem?_cons_zero, Option.map_some]
  repeat ((first | refine wpPlanK_pure (fun K hK => ?_) | refine wpPlanK_float (fun K hK => ?_)); go_simp; refine hK _ ?_; clear hK K)
  clear b2 b3
  refine wpPlanK_keep ?_
  go_wp2_with fail
  refine (HRD.out W.drew HP.out.rep.drew ra ha).mono ?_
  rintro e W' ⟨rfl, rfl⟩
  go_wp2_with fail
  refine ⟨grew_below (Below.refl _ _).drew, ?_⟩
  refine wpPlanK_keep ?_
  go_wp2_with fail
  refine (HRD.out W.drew HP.out.rep.drew rb hbr).mono ?_
  rintro e W' ⟨rfl, rfl⟩
  go_wp2_with fail
  refine ⟨grew_below (Below.refl _ _).drew, ?_⟩
  refine wpPlanK_keep ?_
  go_wp2_with fail
  refine ⟨grew_below (Below.refl _ _).drew, ?_⟩
  refine wpPlanK_keep ?_
  go_wp2_with fail
  refine ⟨grew_below (Below.refl _ _).drew, ?_⟩
  refine wpPlanK_nil ?_
  rw [HX.out.1, HX.out.2]
  go_upto_region 2 with (fail)
  refine wp_gen (fun V => PlW B L c rp s τ ov w ⟨32, (t : Int), ra, rb, arg⟩ V) ⟨HP.out.bel.drew, HP.out.box.drew, HP.out.rep.drew⟩ ?_
  clear HP lb W
  intro W P
  have b0 : W.cell? ⟨w.heap.size, 0, none⟩ = some (.int .i64 32) := P.box.cell 0
  have b1 : W.cell? ⟨w.heap.size, 1, none⟩ = some (.int .i64 (t : Int)) := P.box.cell 1
  have b4 : W.cell? ⟨w.heap.size, 4, none⟩ = some (.int .u32 arg) := P.box.cell 4
  have lb : w.heap.size < W.heap.size := P.box.lt
  have lm : L.mb < W.heap.size := P.rep.mac.lt
  have lr : L.rb < W.heap.size := P.rep.reg.lt
  have c10 : W.cell? ⟨L.mb, 10, none⟩ = some (.slice (some ⟨L.rb, 0, none⟩) s.regs.length s.regs.length) := P.rep.mac.cell 10
  have c7 : W.cell? ⟨L.mb, 7, none⟩ = some (.int .u32 c.input) := P.rep.mac.cell 7
  have ct : W.cell? ⟨L.rb, t, none⟩ = some (.int .u32 (s.regs.getD t 0)) := by rw [P.rep.reg.cell, ints_get ht]
  have ft := P.rep.reg.frozen t
  generalize s.regs.getD t 0 = y at ct
  have HP := Lib.hid P
  clear P
  go_wp2_with fail
  refine wp_region_grew [3, 5, 10] [0, 1, 2, 4, 6, 7, 8, 9, 11] [(2, 0), (2, 1), (2, 2), (2, 4), (2, 6), (2, 7), (2, 8), (2, 9), (1, 3), (1, 5), (1, 10), (2, 11), (0, 12)] (by kernel_rfl) (by kernel_rfl) (fun c a d v w h => by cases d <;> exact h) ?_
  simp only [getPlan, List.filterMap_cons, List.filterMap_nil, List.getElem?_toArray, List.getElem?_cons_succ, List.getElem?_cons_zero, Option.map_some]
  repeat ((first | refine wpPlan_pure (fun K hK => ?_) | refine wpPlan_float (fun K hK => ?_)); go_simp; refine hK _ ?_; clear hK K)
  refine wpPlan_tail (by kernel_rfl) ?_
  simp only [List.map_cons, List.map_nil]
  go_wp2
  refine bodyPost_end (results_none rfl _ _ _) rfl ?_
  exact ⟨rfl, by rw [HE.out]; exact HP.out.done HB.out (HP.out.rep.drew.reg' ht _) (Keep.drew.trans (Keep.set HP.out.rep.br (by rw [HP.out.rep.tr]; omega)))⟩
set_option maxRecDepth 100000 in
set_option maxHeartbeats 1000000 in
theorem rplain_33 (B : Nat) (L : Lay) (c : MC) (rp : List Int) (s : PS) (τ : Nat → Nat) (ov : Value) (w : World) (R : RRep B L c rp s 0 τ ov w) (F : Fine c s) (to ra rb arg : Int) (ha : ra < 0 ∨ ra < c.regs) (hbr : rb < 0 ∨ rb < c.regs) (harg : 0 ≤ arg ∧ arg < 4294967296) (hto : 0 ≤ to ∧ to < c.regs) :
    Calls Try.prog 92 #[.pointer (some ⟨L.mb, 0, none⟩), .agg #[.int .i64 33, .int .i64 to, .int .i64 ra, .int .i64 rb, .int .u32 arg]] w fun e w' => e = .returned (.tuple #[]) ∧ RSt B L c rp τ w (effPost c s ⟨33, to, ra, rb, arg⟩).1 (effPost c s ⟨33, to, ra, rb, arg⟩).2 w' := by
  have hreg := F.regs
  obtain ⟨xa, hxa⟩ : ∃ xa, s.get ra = xa := ⟨_, rfl⟩
  obtain ⟨xb, hxb⟩ : ∃ xb, s.get rb = xb := ⟨_, rfl⟩
  have ua := F.get ra
  have ub := F.get rb
  rw [hxa] at ua
  rw [hxb] at ub
  have HX := Lib.hid (And.intro hxa hxb)
  have HRD := Lib.hid (fun W (R1 : RRep B L c rp s 0 τ ov W) (r : Int) (hr : r < 0 ∨ r < c.regs) => rread_any B L c rp s 0 τ ov W R1 r (by omega))
  have HF := Lib.hid F
  have HB := Lib.hid R.hB
  obtain ⟨t, rfl⟩ : ∃ t : Nat, to = (t : Int) := ⟨to.toNat, by omega⟩
  have ht : t < s.regs.length := by omega
  have ht' := nat_cast_ltQ ht
  have HE := Lib.hid (show effPost c s ⟨33, (t : Int), ra, rb, arg⟩ = ({ s with regs := s.regs.set t (flagI c.ended) }, 0) by simp [effPost, effect, PS.put, flagI])
  have HR := Lib.hid R
  clear hxa hxb F R
  go_enter Try.func92, Try.ntmps92
  go_upto_region 1 with (fail)
  refine wp_gen (fun W => PlW B L c rp s τ ov w ⟨33, (t : Int), ra, rb, arg⟩ W) ?_ ?_
  · have hb : Below w.heap.size w (w.alloc (.cells #[.int .i64 33, .int .i64 (t : Int), .int .i64 ra, .int .i64 rb, .int .u32 arg] 61)) := (Below.refl _ _).alloc (Nat.le_refl _) _
    exact ⟨hb, heap_new1 _ _, HR.out.below hb⟩
  intro W P
  have b2 : W.cell? ⟨w.heap.size, 2, none⟩ = some (.int .i64 ra) := P.box.cell 2
  have b3 : W.cell? ⟨w.heap.size, 3, none⟩ = some (.int .i64 rb) := P.box.cell 3
  have lb : w.heap.size < W.heap.size := P.box.lt
  have HP := Lib.hid P
  clear P HR
  go_wp2_with fail
  refine wp_region_keeps [0, 1, 4, 5] [(2, 0), (2, 1), (2, 4), (2, 5), (1, 2), (1, 6), (0, 3), (0, 7), (0, 8), (0, 9)] (by kernel_rfl) (by kernel_rfl) (fun c a d v w h => by cases d <;> exact h) ?_
  simp only [getPlan, List.filterMap_cons, List.filterMap_nil, List.getElem?_toArray, List.getElem?_cons_succ, List.getElem?_cons_zero, Option.map_some]
  repeat ((first | refine wpPlanK_pure (fun K hK => ?_) | refine wpPlanK_float (fun K hK => ?_)); go_simp; refine hK _ ?_; clear hK K)
  clear b2 b3
  refine wpPlanK_keep ?_
  go_wp2_with fail
  refine (HRD.out W.drew HP.out.rep.drew ra ha).mono ?_
  rintro e W' ⟨rfl, rfl⟩
  go_wp2_with fail
  refine ⟨grew_below (Below.refl _ _).drew, ?_⟩
  refine wpPlanK_keep ?_
  go_wp2_with fail
  refine (HRD.out W.drew HP.out.rep.drew rb hbr).mono ?_
  rintro e W' ⟨rfl, rfl⟩
  go_wp2_with fail
  refine ⟨grew_below (Below.refl _ _).drew, ?_⟩
  refine wpPlanK_keep ?_
  go_wp2_with fail
  refine ⟨grew_below (Below.refl _ _).drew, ?_⟩
  refine wpPlanK_keep ?_
  go_wp2_with fail
  refine ⟨grew_below (Below.refl _ _).drew, ?_⟩
  refine wpPlanK_nil ?_
  rw [HX.out.1, HX.out.2]
  go_upto_region 2 with (fail)
  refine wp_gen (fun V => PlW B L c rp s τ ov w ⟨33, (t : Int), ra, rb, arg⟩ V) ⟨HP.out.bel.drew, HP.out.box.drew, HP.out.rep.drew⟩ ?_
  clear HP lb W
  intro W P
  have b0 : W.cell? ⟨w.heap.size, 0, none⟩ = some (.int .i64 33) := P.box.cell 0
  have b1 : W.cell? ⟨w.heap.size, 1, none⟩ = some (.int .i64 (t : Int)) := P.box.cell 1
  have b4 : W.cell? ⟨w.heap.size, 4, none⟩ = some (.int .u32 arg) := P.box.cell 4
  have lb : w.heap.size < W.heap.size := P.box.lt
  have lm : L.mb < W.heap.size := P.rep.mac.lt
  have lr : L.rb < W.heap.size := P.rep.reg.lt
  have c10 : W.cell? ⟨L.mb, 10, none⟩ = some (.slice (some ⟨L.rb, 0, none⟩) s.regs.length s.regs.length) := P.rep.mac.cell 10
  have c8 : W.cell? ⟨L.mb, 8, none⟩ = some (.bool c.ended) := P.rep.mac.cell 8
  have ct : W.cell? ⟨L.rb, t, none⟩ = some (.int .u32 (s.regs.getD t 0)) := by rw [P.rep.reg.cell, ints_get ht]
  have ft := P.rep.reg.frozen t
  generalize s.regs.getD t 0 = y at ct
  have HP := Lib.hid P
  clear P
  go_wp2_with fail
  refine wp_region_grew [3, 5, 10] [0, 1, 2, 4, 6, 7, 8, 9] [(2, 0), (2, 1), (2, 2), (2, 4), (2, 6), (2, 7), (2, 8), (2, 9), (1, 3), (1, 5), (1, 10), (0, 11), (0, 12), (0, 13)] (by kernel_rfl) (by kernel_rfl) (fun c a d v w h => by cases d <;> exact h) ?_
  simp only [getPlan, List.filterMap_cons, List.filterMap_nil, List.getElem?_toArray, List.getElem?_cons_succ, List.getElem?_cons_zero, Option.map_some]
  repeat ((first | refine wpPlan_pure (fun K hK => ?_) | refine wpPlan_float (fun K hK => ?_)); go_simp; refine hK _ ?_; clear hK K)
  refine wpPlan_keep ?_
  go_wp2_with fail
  refine (truth_any _ _).mono ?_
  rintro e W' ⟨rfl, rfl⟩
  go_wp2_with fail
  refine ⟨grew_below (Below.refl _ _).drew, ?_⟩
  refine wpPlan_keep ?_
  go_wp2_with fail
  refine ⟨grew_below (Below.refl _ _).drew, ?_⟩
  refine wpPlan_tail (by kernel_rfl) ?_
  simp only [List.map_cons, List.map_nil]
  go_wp2
  refine bodyPost_end (results_none rfl _ _ _) rfl ?_
  exact ⟨rfl, by rw [HE.out]; exact HP.out.done HB.out (HP.out.rep.drew.reg' ht _) (Keep.drew.trans (Keep.set HP.out.rep.br (by rw [HP.out.rep.tr]; omega)))⟩
set_option maxRecDepth 100000 in
set_option maxHeartbeats 1000000 in
theorem rplain_35 (B : Nat) (L : Lay) (c : MC) (rp : List Int) (s : PS) (τ : Nat → Nat) (ov : Value) (w : World) (R : RRep B L c rp s 0 τ ov w) (F : Fine c s) (to ra rb arg : Int) (ha : ra < 0 ∨ ra < c.regs) (hbr : rb < 0 ∨ rb < c.regs) (harg : 0 ≤ arg ∧ arg < 4294967296) (hcx : arg < 16) :
    Calls Try.prog 92 #[.pointer (some ⟨L.mb, 0, none⟩), .agg #[.int .i64 35, .int .i64 to, .int .i64 ra, .int .i64 rb, .int .u32 arg]] w fun e w' => e = .returned (.tuple #[]) ∧ RSt B L c rp τ w (effPost c s ⟨35, to, ra, rb, arg⟩).1 (effPost c s ⟨35, to, ra, rb, arg⟩).2 w' := by
  have hreg := F.regs
  obtain ⟨xa, hxa⟩ : ∃ xa, s.get ra = xa := ⟨_, rfl⟩
  obtain ⟨xb, hxb⟩ : ∃ xb, s.get rb = xb := ⟨_, rfl⟩
  have ua := F.get ra
  have ub := F.get rb
  rw [hxa] at ua
  rw [hxb] at ub
  have HX := Lib.hid (And.intro hxa hxb)
  have HRD := Lib.hid (fun W (R1 : RRep B L c rp s 0 τ ov W) (r : Int) (hr : r < 0 ∨ r < c.regs) => rread_any B L c rp s 0 τ ov W R1 r (by omega))
  have HF := Lib.hid F
  have HB := Lib.hid R.hB
  obtain ⟨n, rfl⟩ : ∃ n : Nat, arg = (n : Int) := ⟨arg.toNat, by omega⟩
  have hctx := F.ctx
  have hn : n < s.ctx.length := by omega
  have hn' := nat_cast_ltQ hn
  have HE := Lib.hid (show effPost c s ⟨35, to, ra, rb, (n : Int)⟩ = ({ s with ctx := s.ctx.set n xa }, 0) by simp [effPost, effect, hxa])
  have HR := Lib.hid R
  clear hxa hxb F R
  go_enter Try.func92, Try.ntmps92
  go_upto_region 1 with (fail)
  refine wp_gen (fun W => PlW B L c rp s τ ov w ⟨35, to, ra, rb, (n : Int)⟩ W) ?_ ?_
  · have hb : Below w.heap.size w (w.alloc (.cells #[.int .i64 35, .int .i64 to, .int .i64 ra, .int .i64 rb, .int .u32 (n : Int)] 61)) := (Below.refl _ _).alloc (Nat.le_refl _) _
    exact ⟨hb, heap_new1 _ _, HR.out.below hb⟩
  intro W P
  have b2 : W.cell? ⟨w.heap.size, 2, none⟩ = some (.int .i64 ra) := P.box.cell 2
  have b3 : W.cell? ⟨w.heap.size, 3, none⟩ = some (.int .i64 rb) := P.box.cell 3
  have lb : w.heap.size < W.heap.size := P.box.lt
  have HP := Lib.hid P
  clear P HR
  go_wp2_with fail
  refine wp_region_keeps [0, 1, 4, 5] [(2, 0), (2, 1), (2, 4), (2, 5), (1, 2), (1, 6), (0, 3), (0, 7), (0, 8), (0, 9)] (by kernel_rfl) (by kernel_rfl) (fun c a d v w h => by cases d <;> exact h) ?_
  simp only [getPlan, List.filterMap_cons, List.filterMap_nil, List.getElem?_toArray, List.getElem?_cons_succ, List.getElem?_cons_zero, Option.map_some]
  repeat ((first | refine wpPlanK_pure (fun K hK => ?_) | refine wpPlanK_float (fun K hK => ?_)); go_simp; refine hK _ ?_; clear hK K)
  clear b2 b3
  refine wpPlanK_keep ?_
  go_wp2_with fail
  refine (HRD.out W.drew HP.out.rep.drew ra ha).mono ?_
  rintro e W' ⟨rfl, rfl⟩
  go_wp2_with fail
  refine ⟨grew_below (Below.refl _ _).drew, ?_⟩
  refine wpPlanK_keep ?_
  go_wp2_with fail
  refine (HRD.out W.drew HP.out.rep.drew rb hbr).mono ?_
  rintro e W' ⟨rfl, rfl⟩
  go_wp2_with fail
  refine ⟨grew_below (Below.refl _ _).drew, ?_⟩
  refine wpPlanK_keep ?_
  go_wp2_with fail
  refine ⟨grew_below (Below.refl _ _).drew, ?_⟩
  refine wpPlanK_keep ?_
  go_wp2_with fail
  refine ⟨grew_below (Below.refl _ _).drew, ?_⟩
  refine wpPlanK_nil ?_
  rw [HX.out.1, HX.out.2]
  go_upto_region 2 with (fail)
  refine wp_gen (fun V => PlW B L c rp s τ ov w ⟨35, to, ra, rb, (n : Int)⟩ V) ⟨HP.out.bel.drew, HP.out.box.drew, HP.out.rep.drew⟩ ?_
  clear HP lb W
  intro W P
  have b0 : W.cell? ⟨w.heap.size, 0, none⟩ = some (.int .i64 35) := P.box.cell 0
  have b1 : W.cell? ⟨w.heap.size, 1, none⟩ = some (.int .i64 to) := P.box.cell 1
  have b4 : W.cell? ⟨w.heap.size, 4, none⟩ = some (.int .u32 (n : Int)) := P.box.cell 4
  have lb : w.heap.size < W.heap.size := P.box.lt
  have lm : L.mb < W.heap.size := P.rep.mac.lt
  have lr : L.rb < W.heap.size := P.rep.reg.lt
  have c10 : W.cell? ⟨L.mb, 10, none⟩ = some (.slice (some ⟨L.rb, 0, none⟩) s.regs.length s.regs.length) := P.rep.mac.cell 10
  have c6 : W.cell? ⟨L.mb, 6, none⟩ = some (.slice (some ⟨L.cb, 0, none⟩) s.ctx.length L.ccap) := P.rep.mac.cell 6
  obtain ⟨tl, htl⟩ := P.rep.ctx
  have lc : L.cb < W.heap.size := htl.lt
  have ct : W.cell? ⟨L.cb, n, none⟩ = some (.int .u32 (s.ctx.getD n 0)) := by rw [htl.cell, ints_get_app hn]
  have ft := htl.frozen n
  generalize s.ctx.getD n 0 = y at ct
  clear htl
  have HP := Lib.hid P
  clear P
  go_wp2_with fail
  refine wp_region_grew [4, 6] [0, 1, 2, 3, 5, 7, 8] [(2, 0), (2, 1), (2, 2), (2, 3), (2, 5), (2, 7), (1, 4), (1, 6), (2, 8), (0, 9)] (by kernel_rfl) (by kernel_rfl) (fun c a d v w h => by cases d <;> exact h) ?_
  simp only [getPlan, List.filterMap_cons, List.filterMap_nil, List.getElem?_toArray, List.getElem?_cons_succ, List.getElem?_cons_zero, Option.map_some]
  repeat ((first | refine wpPlan_pure (fun K hK => ?_) | refine wpPlan_float (fun K hK => ?_)); go_simp; refine hK _ ?_; clear hK K)
  refine wpPlan_tail (by kernel_rfl) ?_
  simp only [List.map_cons, List.map_nil]
  go_wp2
  refine bodyPost_end (results_none rfl _ _ _) rfl ?_
  exact ⟨rfl, by rw [HE.out]; exact HP.out.done HB.out (by have := HP.out.rep.drew.setCtx hn xa; rwa [Nat.zero_add] at this) (Keep.drew.trans (Keep.set HP.out.rep.bc (by rw [HP.out.rep.tc]; omega)))⟩
end Go.Proofs.Ytefdnjhhaejgbaa

namespace Go.Proofs.Ytefdnjhhaejgbaa
open Go.RowKit
set_option linter.unusedVariables false
structure RbMem (B : Nat) (w : World) (codeA ptA : Option Addr) (cd : List RI) (pt : List Nat) (rp : List Int) : Prop where
  crow : RowB B w 5 codeA cd.length fun i j => (cd.getD i default).cell j
  prow : RowB B w 1 ptA cd.length fun i _ => .int .i64 (rp.getD i 0)
  ag : AgreeL cd rp pt
theorem RbMem.below {B : Nat} {w w' : World} {codeA ptA : Option Addr} {cd : List RI} {pt : List Nat} {rp : List Int} (h : RbMem B w codeA ptA cd pt rp) (hb : Below B w w') : RbMem B w' codeA ptA cd pt rp := ⟨h.crow.below hb, h.prow.below hb, h.ag⟩
theorem RbMem.mono {B B' : Nat} {w : World} {codeA ptA : Option Addr} {cd : List RI} {pt : List Nat} {rp : List Int} (h : RbMem B w codeA ptA cd pt rp) (hb : B ≤ B') : RbMem B' w codeA ptA cd pt rp := ⟨h.crow.mono hb, h.prow.mono hb, h.ag⟩
theorem RbMem.ins {B : Nat} {w : World} {codeA ptA : Option Addr} {cd : List RI} {pt : List Nat} {rp : List Int} (h : RbMem B w codeA ptA cd pt rp) {k : Nat} (hk : k < cd.length) {i : RI} (hi : cd.getD k default = i) :
    ∃ b off, codeA = some ⟨b, off, none⟩ ∧ b < B ∧ w.cell? ⟨b, off + k * 5, none⟩ = some (.int .i64 i.op) ∧ w.cell? ⟨b, off + k * 5 + 4, none⟩ = some (.int .u32 i.arg) := by
  obtain ⟨b, off, h1, h2, h3⟩ := h.crow k hk
  simp only [hi] at h3
  exact ⟨b, off, h1, h2, h3 0 (by omega), h3 4 (by omega)⟩
theorem RbMem.ptc {B : Nat} {w : World} {codeA ptA : Option Addr} {cd : List RI} {pt : List Nat} {rp : List Int} (h : RbMem B w codeA ptA cd pt rp) {k : Nat} (hk : k < cd.length) {p : Nat} (hp : pt.getD k 0 = p) (ho : (cd.getD k default).op = 27 ∨ (cd.getD k default).op = 28 ∨ (cd.getD k default).op = 29) :
    ∃ b off, ptA = some ⟨b, off, none⟩ ∧ b < B ∧ w.cell? ⟨b, off + k, none⟩ = some (.int .i64 (p : Int)) := by
  obtain ⟨b, off, h1, h2, h3⟩ := h.prow k hk
  refine ⟨b, off, h1, h2, ?_⟩
  have := h3 0 (by omega)
  simp only [Nat.mul_one, Nat.add_zero, h.ag k hk ho, hp] at this
  exact this
def RBoundIs (n : Nat) (arsA : Option Addr) (arsL arsC : Nat) (regs spills : Int) (codeC ptC : Nat) (codeA ptA : Option Addr) (cd : List RI) (pt : List Nat) (rp : List Int) : Prop :=
  ∀ (t : T) (k e : Nat) (wi : Bool) (d : Nat) (w : World), t.size < n → k + t.size ≤ cd.length → BdAt cd pt k e t → t.wf wi d → RbMem w.heap.size w codeA ptA cd pt rp →
    Calls Try.prog 36 #[.agg #[.slice arsA arsL arsC, .int .i64 regs, .int .i64 spills, .slice codeA cd.length codeC], .slice ptA cd.length ptC, .int .i64 (k : Int), .int .i64 ((k + t.size : Nat) : Int)] w fun e w' => e = .returned (.int .i64 (t.bd 0)) ∧ Below w.heap.size w w'
theorem RBoundIs.call {n : Nat} {arsA : Option Addr} {arsL arsC : Nat} {regs spills : Int} {codeC ptC : Nat} {codeA ptA : Option Addr} {cd : List RI} {pt : List Nat} {rp : List Int} (h : RBoundIs n arsA arsL arsC regs spills codeC ptC codeA ptA cd pt rp) {w0 : World} (hm : RbMem w0.heap.size w0 codeA ptA cd pt rp) {a : T} {k q e : Nat} {wi : Bool} {d : Nat} (hn : a.size < n) (hk : k + 1 + a.size ≤ cd.length)
    (hb : BdAt cd pt (k + 1) e a) (hw : a.wf wi d) (hq : q = k + 1 + a.size) (w : World) (hbw : Below w0.heap.size w0 w) :
    Calls Try.prog 36 #[.agg #[.slice arsA arsL arsC, .int .i64 regs, .int .i64 spills, .slice codeA cd.length codeC], .slice ptA cd.length ptC, .int .i64 ((k : Int) + 1), .int .i64 (q : Int)] w fun e w' => e = .returned (.int .i64 (a.bd 0)) ∧ Below w.heap.size w w' := by
  subst hq
  exact h a (k + 1) e wi d w hn hk hb hw ((hm.below hbw).mono hbw.size)
end Go.Proofs.Ytefdnjhhaejgbaa
