/- A part of the proof of MachineCalculates: H I J K L Fork M. No condition. -/
import Derived.Deep.Cut
import Derived.Deep.LoopGhost
import Derived.Defers
import Derived.Laws.MakeOwn
import Derived.Lib.SliceRun
import Derived.Recover
import Derived.Test.YtefdnjhhaejgbaaG03
import Derived.Test.YtefdnjhhaejgbaaG01
namespace Go.Proofs.Ytefdnjhhaejgbaa
open Go.RowKit
set_option linter.unusedVariables false

theorem Fine.tick {c : MC} {s : PS} (F : Fine c s) (h : s.steps < c.fuel) : Fine c { s with steps := s.steps + 1 } :=
  { F with st0 := by have := F.st0; show 0 ≤ s.steps + 1; omega, st1 := by show s.steps + 1 ≤ c.fuel; omega }

/-- blocks that are not there yet are foreign -/
theorem Rep.retag {B : Nat} {L : Lay} {c : MC} {s : PS} {τ : Nat → Nat} {lv ov : Value} {w : World} (h : Rep B L c s τ lv ov w) : Rep B L c s (fun x => if w.heap.size ≤ x then 1000 else τ x) lv ov w := by
  have hm := h.mac.lt
  have hr := h.reg.lt
  have hs := h.spl.lt
  have hc := h.lt.2.2.2
  exact { h with
    outer := fun k hk => by
      obtain ⟨q, qo, h1, h2, h3, h4⟩ := h.outer k hk
      exact ⟨q, qo, h1, by rw [if_neg (by omega)]; exact h2, h3, h4⟩
    tm := by show (if _ then _ else _) = _; rw [if_neg (by omega)]; exact h.tm
    tr := by show (if _ then _ else _) = _; rw [if_neg (by omega)]; exact h.tr
    ts := by show (if _ then _ else _) = _; rw [if_neg (by omega)]; exact h.ts
    tc := by show (if _ then _ else _) = _; rw [if_neg (by omega)]; exact h.tc
    ta := fun k hk => by
      obtain ⟨t, ht⟩ := h.arr k hk
      have := ht.lt
      show (if _ then _ else _) = _; rw [if_neg (by omega)]; exact h.ta k hk
    tl := fun g hg => by have := (h.lown.lt g hg).2; show (if _ then _ else _) = _; rw [if_neg (by omega)]; exact h.tl g hg
    to := fun g hg => by have := (h.oown.lt g hg).2; show (if _ then _ else _) = _; rw [if_neg (by omega)]; exact h.to g hg }

/-- what holds at the head of each round -/
structure RunAt (B : Nat) (L : Lay) (c : MC) (Inv : PS → Prop) (fin : PS → Except Int PS) (r0 : Except Int PS) (rb tb : Nat) (τ0 : Nat → Nat) (w : World) (s : PS) (τ : Nat → Nat) (lv ov : Value) (wr : World) : Prop where
  rep : Rep B L c s τ lv ov wr
  inv : Inv s
  fin : fin s = r0
  bel : Below B w wr
  res : wr.heap[rb]? = some (.cells #[.slice none 0 0, .slice none 0 0, .slice none 0 0, .int .i64 0] 49)
  tab : wr.heap[tb]? = some (.map effEntries 15)
  trb : 1000 ≤ τ rb
  ttb : 1000 ≤ τ tb
  hrb : B ≤ rb
  fo : Foreign τ0 w wr
  tg : ∀ k, k < w.heap.size → 1000 ≤ τ0 k → τ k = τ0 k

def RunRel (B : Nat) (L : Lay) (c : MC) (Inv : PS → Prop) (μ : PS → Nat) (fin : PS → Except Int PS) (r0 : Except Int PS) (rb tb : Nat) (τ0 : Nat → Nat) (w : World) (k : Nat) (wr : World) : Prop :=
  ∃ s τ lv ov, RunAt B L c Inv fin r0 rb tb τ0 w s τ lv ov wr ∧ μ s = k

/-- what is said behind a run -/
def RunPost (B : Nat) (L : Lay) (c : MC) (τ0 : Nat → Nat) (w : World) (r : Except Int PS) (e : Ending) (w' : World) : Prop :=
  match r with
  | .ok s => Below B w w' ∧ Foreign τ0 w w' ∧ ∃ τ lv ov, Rep B L c s τ lv ov w' ∧ (∀ k, k < w.heap.size → 1000 ≤ τ0 k → τ k = τ0 k) ∧ e = .returned (.agg #[.slice L.arrA s.arr.length L.arrC, .slice (some ⟨L.cb, 0, none⟩) s.ctx.length L.ccap, ov, .int .i64 s.steps])
  | .error n => e = .panicked (failed n) ∧ Below B w w' ∧ Foreign τ0 w w'

set_option maxRecDepth 100000 in
set_option maxHeartbeats 1000000 in
theorem run_any {B : Nat} {L : Lay} {c : MC} (Inv : PS → Prop) (μ : PS → Nat) (fin : PS → Except Int PS)
    (hF : ∀ s, Inv s → Fine c s)
    (hI : ∀ s, Inv s → s.pc < c.cd.length → chkI c.regs c.spills c.ars.length (c.cd.getD s.pc default) = 0 ∧ (0 ≤ (c.cd.getD s.pc default).arg ∧ (c.cd.getD s.pc default).arg < 4294967296) ∧
      ((c.cd.getD s.pc default).op = 30 → s.loops ≠ []) ∧ ((c.cd.getD s.pc default).op = 29 → s.loops.length < 16))
    (hS : ∀ s s', Inv s → s.pc < c.cd.length → mstep c s = .ok s' → Inv s' ∧ μ s' < μ s)
    (hfin : ∀ s, Inv s → fin s = if s.pc < c.cd.length then (mstep c s).bind fin else .ok s)
    {s0 : PS} {τ0 : Nat → Nat} {lv0 ov0 : Value} {w : World} (R0 : Rep B L c s0 τ0 lv0 ov0 w) (h0 : Inv s0) :
    Calls Try.prog 54 #[.pointer (some ⟨L.mb, 0, none⟩)] w (RunPost B L c τ0 w (fin s0)) := by
  have HF := Lib.hid hF
  have HI := Lib.hid hI
  have HS := Lib.hid hS
  have Hfin := Lib.hid hfin
  clear hF hI hS hfin
  have start : ∀ wr, wr = (w.alloc (.cells #[.slice none 0 0, .slice none 0 0, .slice none 0 0, .int .i64 0] 49)).alloc (.map effEntries 15) →
      RunRel B L c Inv μ fin (fin s0) w.heap.size (w.heap.size + 1) τ0 w (μ s0) wr := by
    rintro wr rfl
    have hb : Below w.heap.size w ((w.alloc (.cells #[.slice none 0 0, .slice none 0 0, .slice none 0 0, .int .i64 0] 49)).alloc (.map effEntries 15)) := ((Below.refl _ _).alloc (by simp) _).alloc (by simp) _
    refine ⟨s0, _, lv0, ov0, ⟨R0.retag.below hb, h0, rfl, hb.mono R0.hB, ?_, heap_new2 _ _ _, by simp, by simp, R0.hB, Foreign.of_below hb, fun k hk _ => if_neg (by omega)⟩, rfl⟩
    have h1 := heap_new1 w (.cells #[.slice none 0 0, .slice none 0 0, .slice none 0 0, .int .i64 0] 49)
    rw [Below.heap_alloc _ _ _ (by simp)]
    exact h1
  have HST := Lib.hid start
  have HR := Lib.hid R0
  clear start R0
  go_enter Try.func54, Try.ntmps54
  go_wp2_with (go_at_call 86; refine (effects_any _).mono ?_; rintro e w' ⟨rfl, rfl⟩)
  go_loopg [] (μ s0) (fun k wr => RunRel B L c Inv μ fin (fin s0) w.heap.size (w.heap.size + 1) τ0 w k wr)
  case atStart => exact HST.out _ rfl
  case round =>
    obtain ⟨s, τ, lv, ov, RA, hk⟩ := hrel
    have HK := Lib.hid hk
    clear hk
    have hmm := RA.rep.mac.lt
    have c15 : wr.cell? ⟨L.mb, 15, none⟩ = some (.int .i64 s.pc) := RA.rep.mac.cell 15
    have F := HF.out s RA.inv
    by_cases hpc : s.pc < c.cd.length
    · have hpc' := nat_cast_lt hpc
      have hd : decide ((s.pc : Int) < (c.cd.length : Int)) = true := by simp [hpc]
      have hd2 : decide (s.pc < c.cd.length) = true := by simp [hpc]
      obtain ⟨b0, o0, hA, hb0, hcells⟩ := RA.rep.ro.code s.pc hpc
      have c3 : wr.cell? ⟨L.mb, 3, none⟩ = some (.slice (some ⟨b0, o0, none⟩) c.cd.length L.codeC) := by have := RA.rep.mac.cell 3; rw [← hA]; exact this
      clear hA
      have hb0' : b0 < wr.heap.size := Nat.lt_of_lt_of_le hb0 RA.rep.hB
      have hcells2 : ∀ j, j < 5 → wr.cell? ⟨b0, o0 + s.pc * 5 + j, none⟩ = some ((c.cd.getD s.pc default).cell j) := hcells
      clear hcells
      generalize hi : c.cd.getD s.pc default = i at hcells2
      obtain ⟨op, to, a, bb, arg⟩ := i
      have k0 : wr.cell? ⟨b0, o0 + s.pc * 5, none⟩ = some (.int .i64 op) := hcells2 0 (by omega)
      have k1 : wr.cell? ⟨b0, o0 + s.pc * 5 + 1, none⟩ = some (.int .i64 to) := hcells2 1 (by omega)
      have k2 : wr.cell? ⟨b0, o0 + s.pc * 5 + 1 + 1, none⟩ = some (.int .i64 a) := hcells2 2 (by omega)
      have k3 : wr.cell? ⟨b0, o0 + s.pc * 5 + 1 + 1 + 1, none⟩ = some (.int .i64 bb) := hcells2 3 (by omega)
      have k4 : wr.cell? ⟨b0, o0 + s.pc * 5 + 1 + 1 + 1 + 1, none⟩ = some (.int .u32 arg) := hcells2 4 (by omega)
      have HIi := Lib.hid hi
      clear hcells2 hi
      go_wp2
      refine wp_region_grew [3, 8] [0, 1, 2, 4, 5, 6, 7, 9, 10] [(2, 0), (2, 1), (2, 2), (2, 4), (2, 5), (2, 6), (2, 7), (1, 3), (1, 8), (2, 9), (2, 10)] (by kernel_rfl) (by kernel_rfl) (fun c a d v w h => by cases d <;> exact h) ?_
      simp only [getPlan, List.filterMap_cons, List.filterMap_nil, List.getElem?_toArray, List.getElem?_cons_succ, List.getElem?_cons_zero, Option.map_some]
      repeat ((first | refine wpPlan_pure (fun K hK => ?_) | refine wpPlan_float (fun K hK => ?_)); go_simp; refine hK _ ?_; clear hK K)
      refine wpPlan_nil ?_
      go_wp2_with fail
      refine wp_region_grew [4, 8, 10] [0, 1, 2, 3, 5, 6, 7, 9] [(2, 0), (2, 1), (2, 2), (2, 3), (2, 5), (2, 6), (2, 7), (1, 4), (1, 8), (2, 9), (1, 10), (0, 11), (0, 12)] (by kernel_rfl) (by kernel_rfl) (fun c a d v w h => by cases d <;> exact h) ?_
      simp only [getPlan, List.filterMap_cons, List.filterMap_nil, List.getElem?_toArray, List.getElem?_cons_succ, List.getElem?_cons_zero, Option.map_some]
      repeat ((first | refine wpPlan_pure (fun K hK => ?_) | refine wpPlan_float (fun K hK => ?_)); go_simp; refine hK _ ?_; clear hK K)
      refine wpPlan_keep ?_
      go_wp2_with fail
      refine ⟨grew_below ((Below.refl _ _).alloc (by simp) _).drew, ?_⟩
      refine wpPlan_tail (by kernel_rfl) ?_
      simp only [List.map_cons, List.map_nil]
      go_upto_region 5 with (fail)
      refine wp_gen (fun w2 => Rep B L c s τ lv ov w2 ∧ (Below B w w2 ∧ Foreign τ0 w w2) ∧ w2.heap[w.heap.size]? = some (.cells #[.slice none 0 0, .slice none 0 0, .slice none 0 0, .int .i64 0] 49) ∧ w2.heap[w.heap.size + 1]? = some (.map effEntries 15) ∧
        wr.heap.size < w2.heap.size ∧ w2.cell? ⟨wr.heap.size, 0, none⟩ = some (.int .i64 op) ∧ w2.cell? ⟨wr.heap.size, 1, none⟩ = some (.int .i64 to) ∧ w2.cell? ⟨wr.heap.size, 2, none⟩ = some (.int .i64 a) ∧ w2.cell? ⟨wr.heap.size, 3, none⟩ = some (.int .i64 bb) ∧ w2.cell? ⟨wr.heap.size, 4, none⟩ = some (.int .u32 arg)) ?_ ?_
      · have hbw : Below wr.heap.size wr (wr.alloc (.cells #[.int .i64 op, .int .i64 to, .int .i64 a, .int .i64 bb, .int .u32 arg] 61)).drew.drew := ((Below.refl _ _).alloc (Nat.le_refl _) _).drew.drew
        have l1 : w.heap.size < wr.heap.size := (Array.getElem?_eq_some_iff.1 RA.res).1
        have l2 : w.heap.size + 1 < wr.heap.size := (Array.getElem?_eq_some_iff.1 RA.tab).1
        exact ⟨RA.rep.below hbw, ⟨RA.bel.trans (hbw.mono RA.rep.hB), RA.fo.below (hbw.mono RA.bel.size)⟩, by rw [hbw.block _ l1]; exact RA.res, by rw [hbw.block _ l2]; exact RA.tab, by simp, by simp [go_sem], by simp [go_sem], by simp [go_sem], by simp [go_sem], by simp [go_sem]⟩
      rintro w2 ⟨R2, ⟨hb2, hf2⟩, hres2, htab2, hsz2, x0, x1, x2, x3, x4⟩
      have hmm2 := R2.mac.lt
      clear k0 k1 k2 k3 k4 c3 c15 hb0' hb0 hd hd2 hpc'
      have htg : ∀ k, 1000 ≤ τ k → k ≠ L.mb := fun k hk e => by rw [e, R2.tm] at hk; omega
      rcases (show (op = 28) ∨ (op = 31) ∨ (op ≠ 28 ∧ op ≠ 31) by omega) with hop | hop | hop
      · have n1 : (op != 28) = false := by simp [hop]
        have HO : Hid (¬ (op ≠ 28 ∧ op ≠ 31)) := Lib.hid (by omega)
        clear hop
        go_upto_region 7 with (fail)
        refine wp_gen (fun w3 => ∃ s1, (if op ≠ 28 ∧ op ≠ 31 then tick c s else .ok s) = .ok s1 ∧ Fine c s1 ∧ s1.pc = s.pc ∧ s1.loops = s.loops ∧ Rep B L c s1 τ lv ov w3 ∧ (Below B w w3 ∧ Foreign τ0 w w3) ∧ w3.heap[w.heap.size]? = some (.cells #[.slice none 0 0, .slice none 0 0, .slice none 0 0, .int .i64 0] 49) ∧ w3.heap[w.heap.size + 1]? = some (.map effEntries 15) ∧
        wr.heap.size < w3.heap.size ∧ w3.cell? ⟨wr.heap.size, 0, none⟩ = some (.int .i64 op) ∧ w3.cell? ⟨wr.heap.size, 1, none⟩ = some (.int .i64 to) ∧ w3.cell? ⟨wr.heap.size, 2, none⟩ = some (.int .i64 a) ∧ w3.cell? ⟨wr.heap.size, 3, none⟩ = some (.int .i64 bb) ∧ w3.cell? ⟨wr.heap.size, 4, none⟩ = some (.int .u32 arg)) ⟨s, by rw [if_neg HO.out], F, rfl, rfl, R2, ⟨hb2, hf2⟩, hres2, htab2, hsz2, x0, x1, x2, x3, x4⟩ ?_
        rintro w3 ⟨s1, hs1, F1, hpc1, hlo1, R3, ⟨hb3, hf3⟩, hres3, htab3, hsz3, y0, y1, y2, y3, y4⟩
        clear x0 x1 x2 x3 x4 hsz2
        have HS1 := Lib.hid hs1
        obtain ⟨ck, ar, h30, h29⟩ := HI.out s RA.inv hpc
        rw [HIi.out] at ck ar h30 h29
        have tabc := eff_tab R3 F1 ⟨op, to, a, bb, arg⟩ ck ar (by rw [hpc1]; exact hpc) (fun h => by rw [hlo1]; exact h30 h) (fun h => by rw [hlo1]; exact h29 h)
        have hl := run_lookup_int (P := Try.prog) (T := 123) Try.underlying123 Try.underlying3 w3 (w.heap.size + 1) effEntries 15 htab3 op eff_keys .nilFunc (zero_eff _)
        have HP := Lib.hid (And.intro hres3 htab3)
        clear hs1 hpc1 hlo1 hres3 htab3 ck ar h30 h29 hres2 htab2
        have fin4 : ∀ s2 w4 τ' lv' ov', effect c s1 ⟨op, to, a, bb, arg⟩ = .ok s2 → Below B w3 w4 → Foreign τ w3 w4 → Rep B L c s2 τ' lv' ov' w4 → (∀ k, k < w3.heap.size → 1000 ≤ τ k → τ' k = τ k) →
            s2.pc + 1 ≤ 16384 ∧ μ { s2 with pc := s2.pc + 1 } < μ s ∧ RunRel B L c Inv μ fin (fin s0) w.heap.size (w.heap.size + 1) τ0 w (μ { s2 with pc := s2.pc + 1 }) (w4.setCell ⟨L.mb, 15, none⟩ (.int .i64 ((s2.pc : Int) + 1))) := by
          intro s2 w4 τ' lv' ov' he hb4 hfo R4 htag
          have hm : mstep c s = .ok { s2 with pc := s2.pc + 1 } := by
            simp only [mstep, HIi.out, HS1.out, Except.bind, he]
          obtain ⟨i1, i2⟩ := HS.out s _ RA.inv hpc hm
          have F2 := HF.out _ i1
          have hp2 := F2.pc
          have hp3 := F2.clen
          simp only at hp2
          obtain ⟨hres3, htab3⟩ := HP.out
          have l1 : w.heap.size < w3.heap.size := (Array.getElem?_eq_some_iff.1 hres3).1
          have l2 : w.heap.size + 1 < w3.heap.size := (Array.getElem?_eq_some_iff.1 htab3).1
          have tr1 : 1000 ≤ τ' w.heap.size := by rw [htag _ l1 RA.trb]; exact RA.trb
          have tr2 : 1000 ≤ τ' (w.heap.size + 1) := by rw [htag _ l2 RA.ttb]; exact RA.ttb
          have ne1 : w.heap.size ≠ L.mb := fun e => by rw [e, R4.tm] at tr1; omega
          have ne2 : w.heap.size + 1 ≠ L.mb := fun e => by rw [e, R4.tm] at tr2; omega
          refine ⟨by omega, i2, { s2 with pc := s2.pc + 1 }, τ', lv', ov', ⟨by simpa using R4.setPc (s2.pc + 1), i1, ?_, (hb3.trans hb4).setCell R4.bm _, ?_, ?_, tr1, tr2, RA.hrb, ?_, ?_⟩, rfl⟩
          · rw [← RA.fin, Hfin.out s RA.inv, if_pos hpc, hm]; rfl
          · rw [Below.heap_setCell _ _ _ _ ne1, hfo _ l1 RA.trb]; exact hres3
          · rw [Below.heap_setCell _ _ _ _ ne2, hfo _ l2 RA.ttb]; exact htab3
          · intro k hk ht
            have hk3 : k < w3.heap.size := Nat.lt_of_lt_of_le hk hb3.size
            have ht3 : 1000 ≤ τ k := by rw [RA.tg k hk ht]; exact ht
            have ht4 : 1000 ≤ τ' k := by rw [htag k hk3 ht3]; exact ht3
            rw [Below.heap_setCell _ _ _ _ (fun e => by simp at e; rw [e, R4.tm] at ht4; omega), hfo k hk3 ht3]; exact hf3 k hk ht
          · intro k hk ht
            have hk3 : k < w3.heap.size := Nat.lt_of_lt_of_le hk hb3.size
            rw [htag k hk3 (by rw [RA.tg k hk ht]; exact ht), RA.tg k hk ht]
        have err4 : ∀ n, effect c s1 ⟨op, to, a, bb, arg⟩ = .error n → fin s0 = .error n := by
          intro n he
          rw [← RA.fin, Hfin.out s RA.inv, if_pos hpc]
          simp only [mstep, HIi.out, HS1.out, Except.bind, he]
        have H4 := Lib.hid fin4
        have HE4 := Lib.hid err4
        clear fin4 err4
        rcases tabc with ⟨f, hv, hent, hcall⟩ | ⟨hv, hcall⟩
        all_goals
          rw [hv] at hl
          simp only [Option.getD_some, Option.isSome_some, Option.getD_none, Option.isSome_none] at hl
          have HC := Lib.hid hcall
          clear hcall hv
          go_wp2_with fail
          refine (HC.out).mono ?_
          intro e w4 hpost
          generalize heff : effect c s1 ⟨op, to, a, bb, arg⟩ = r at hpost
          have HEF := Lib.hid heff
          clear heff
          cases r with
          | error n =>
            obtain ⟨rfl, hb4, hfo4⟩ := hpost
            refine ⟨rfl, ?_⟩
            rw [HE4.out n HEF.out]
            exact ⟨rfl, hb3.trans hb4, fun k hk ht => by rw [hfo4 k (Nat.lt_of_lt_of_le hk hb3.size) (by rw [RA.tg k hk ht]; exact ht)]; exact hf3 k hk ht⟩
          | ok s2 =>
            obtain ⟨rfl, hb4, hfo, τ', lv', ov', R4, htag⟩ := hpost
            obtain ⟨p1, p2, p3⟩ := H4.out s2 w4 τ' lv' ov' HEF.out hb4 hfo R4 htag
            have d15 : w4.cell? ⟨L.mb, 15, none⟩ = some (.int .i64 s2.pc) := R4.mac.cell 15
            have z15 := R4.mac.frozen 15
            have HP3 := Lib.hid p3
            clear p3 htag hfo
            go_wp2_with fail
            go_roundg (μ { s2 with pc := s2.pc + 1 })
            case measure => rw [← HK.out]; exact p2
            case rel => exact HP3.out
      · have n1 : (op != 28) = true := by simp [hop]
        have n2 : (op != 31) = false := by simp [hop]
        have HO : Hid (¬ (op ≠ 28 ∧ op ≠ 31)) := Lib.hid (by omega)
        clear hop
        go_upto_region 7 with (fail)
        refine wp_gen (fun w3 => ∃ s1, (if op ≠ 28 ∧ op ≠ 31 then tick c s else .ok s) = .ok s1 ∧ Fine c s1 ∧ s1.pc = s.pc ∧ s1.loops = s.loops ∧ Rep B L c s1 τ lv ov w3 ∧ (Below B w w3 ∧ Foreign τ0 w w3) ∧ w3.heap[w.heap.size]? = some (.cells #[.slice none 0 0, .slice none 0 0, .slice none 0 0, .int .i64 0] 49) ∧ w3.heap[w.heap.size + 1]? = some (.map effEntries 15) ∧
        wr.heap.size < w3.heap.size ∧ w3.cell? ⟨wr.heap.size, 0, none⟩ = some (.int .i64 op) ∧ w3.cell? ⟨wr.heap.size, 1, none⟩ = some (.int .i64 to) ∧ w3.cell? ⟨wr.heap.size, 2, none⟩ = some (.int .i64 a) ∧ w3.cell? ⟨wr.heap.size, 3, none⟩ = some (.int .i64 bb) ∧ w3.cell? ⟨wr.heap.size, 4, none⟩ = some (.int .u32 arg)) ⟨s, by rw [if_neg HO.out], F, rfl, rfl, R2, ⟨hb2, hf2⟩, hres2, htab2, hsz2, x0, x1, x2, x3, x4⟩ ?_
        rintro w3 ⟨s1, hs1, F1, hpc1, hlo1, R3, ⟨hb3, hf3⟩, hres3, htab3, hsz3, y0, y1, y2, y3, y4⟩
        clear x0 x1 x2 x3 x4 hsz2
        have HS1 := Lib.hid hs1
        obtain ⟨ck, ar, h30, h29⟩ := HI.out s RA.inv hpc
        rw [HIi.out] at ck ar h30 h29
        have tabc := eff_tab R3 F1 ⟨op, to, a, bb, arg⟩ ck ar (by rw [hpc1]; exact hpc) (fun h => by rw [hlo1]; exact h30 h) (fun h => by rw [hlo1]; exact h29 h)
        have hl := run_lookup_int (P := Try.prog) (T := 123) Try.underlying123 Try.underlying3 w3 (w.heap.size + 1) effEntries 15 htab3 op eff_keys .nilFunc (zero_eff _)
        have HP := Lib.hid (And.intro hres3 htab3)
        clear hs1 hpc1 hlo1 hres3 htab3 ck ar h30 h29 hres2 htab2
        have fin4 : ∀ s2 w4 τ' lv' ov', effect c s1 ⟨op, to, a, bb, arg⟩ = .ok s2 → Below B w3 w4 → Foreign τ w3 w4 → Rep B L c s2 τ' lv' ov' w4 → (∀ k, k < w3.heap.size → 1000 ≤ τ k → τ' k = τ k) →
            s2.pc + 1 ≤ 16384 ∧ μ { s2 with pc := s2.pc + 1 } < μ s ∧ RunRel B L c Inv μ fin (fin s0) w.heap.size (w.heap.size + 1) τ0 w (μ { s2 with pc := s2.pc + 1 }) (w4.setCell ⟨L.mb, 15, none⟩ (.int .i64 ((s2.pc : Int) + 1))) := by
          intro s2 w4 τ' lv' ov' he hb4 hfo R4 htag
          have hm : mstep c s = .ok { s2 with pc := s2.pc + 1 } := by
            simp only [mstep, HIi.out, HS1.out, Except.bind, he]
          obtain ⟨i1, i2⟩ := HS.out s _ RA.inv hpc hm
          have F2 := HF.out _ i1
          have hp2 := F2.pc
          have hp3 := F2.clen
          simp only at hp2
          obtain ⟨hres3, htab3⟩ := HP.out
          have l1 : w.heap.size < w3.heap.size := (Array.getElem?_eq_some_iff.1 hres3).1
          have l2 : w.heap.size + 1 < w3.heap.size := (Array.getElem?_eq_some_iff.1 htab3).1
          have tr1 : 1000 ≤ τ' w.heap.size := by rw [htag _ l1 RA.trb]; exact RA.trb
          have tr2 : 1000 ≤ τ' (w.heap.size + 1) := by rw [htag _ l2 RA.ttb]; exact RA.ttb
          have ne1 : w.heap.size ≠ L.mb := fun e => by rw [e, R4.tm] at tr1; omega
          have ne2 : w.heap.size + 1 ≠ L.mb := fun e => by rw [e, R4.tm] at tr2; omega
          refine ⟨by omega, i2, { s2 with pc := s2.pc + 1 }, τ', lv', ov', ⟨by simpa using R4.setPc (s2.pc + 1), i1, ?_, (hb3.trans hb4).setCell R4.bm _, ?_, ?_, tr1, tr2, RA.hrb, ?_, ?_⟩, rfl⟩
          · rw [← RA.fin, Hfin.out s RA.inv, if_pos hpc, hm]; rfl
          · rw [Below.heap_setCell _ _ _ _ ne1, hfo _ l1 RA.trb]; exact hres3
          · rw [Below.heap_setCell _ _ _ _ ne2, hfo _ l2 RA.ttb]; exact htab3
          · intro k hk ht
            have hk3 : k < w3.heap.size := Nat.lt_of_lt_of_le hk hb3.size
            have ht3 : 1000 ≤ τ k := by rw [RA.tg k hk ht]; exact ht
            have ht4 : 1000 ≤ τ' k := by rw [htag k hk3 ht3]; exact ht3
            rw [Below.heap_setCell _ _ _ _ (fun e => by simp at e; rw [e, R4.tm] at ht4; omega), hfo k hk3 ht3]; exact hf3 k hk ht
          · intro k hk ht
            have hk3 : k < w3.heap.size := Nat.lt_of_lt_of_le hk hb3.size
            rw [htag k hk3 (by rw [RA.tg k hk ht]; exact ht), RA.tg k hk ht]
        have err4 : ∀ n, effect c s1 ⟨op, to, a, bb, arg⟩ = .error n → fin s0 = .error n := by
          intro n he
          rw [← RA.fin, Hfin.out s RA.inv, if_pos hpc]
          simp only [mstep, HIi.out, HS1.out, Except.bind, he]
        have H4 := Lib.hid fin4
        have HE4 := Lib.hid err4
        clear fin4 err4
        rcases tabc with ⟨f, hv, hent, hcall⟩ | ⟨hv, hcall⟩
        all_goals
          rw [hv] at hl
          simp only [Option.getD_some, Option.isSome_some, Option.getD_none, Option.isSome_none] at hl
          have HC := Lib.hid hcall
          clear hcall hv
          go_wp2_with fail
          refine (HC.out).mono ?_
          intro e w4 hpost
          generalize heff : effect c s1 ⟨op, to, a, bb, arg⟩ = r at hpost
          have HEF := Lib.hid heff
          clear heff
          cases r with
          | error n =>
            obtain ⟨rfl, hb4, hfo4⟩ := hpost
            refine ⟨rfl, ?_⟩
            rw [HE4.out n HEF.out]
            exact ⟨rfl, hb3.trans hb4, fun k hk ht => by rw [hfo4 k (Nat.lt_of_lt_of_le hk hb3.size) (by rw [RA.tg k hk ht]; exact ht)]; exact hf3 k hk ht⟩
          | ok s2 =>
            obtain ⟨rfl, hb4, hfo, τ', lv', ov', R4, htag⟩ := hpost
            obtain ⟨p1, p2, p3⟩ := H4.out s2 w4 τ' lv' ov' HEF.out hb4 hfo R4 htag
            have d15 : w4.cell? ⟨L.mb, 15, none⟩ = some (.int .i64 s2.pc) := R4.mac.cell 15
            have z15 := R4.mac.frozen 15
            have HP3 := Lib.hid p3
            clear p3 htag hfo
            go_wp2_with fail
            go_roundg (μ { s2 with pc := s2.pc + 1 })
            case measure => rw [← HK.out]; exact p2
            case rel => exact HP3.out
      · have n1 : (op != 28) = true := by simp [hop.1]
        have n2 : (op != 31) = true := by simp [hop.2]
        have HO : Hid (op ≠ 28 ∧ op ≠ 31) := Lib.hid hop
        clear hop
        by_cases hsf : s.steps < c.fuel
        · go_wp2_with fail
          refine (step_yes L.mb s.steps c.fuel w2 (R2.mac.cell 14) (R2.mac.cell 9) (R2.mac.frozen _) hsf F.st0 F.fu).mono ?_
          rintro e w3 ⟨rfl, n, rfl⟩
          go_upto_region 7 with (fail)
          refine wp_gen (fun w3 => ∃ s1, (if op ≠ 28 ∧ op ≠ 31 then tick c s else .ok s) = .ok s1 ∧ Fine c s1 ∧ s1.pc = s.pc ∧ s1.loops = s.loops ∧ Rep B L c s1 τ lv ov w3 ∧ (Below B w w3 ∧ Foreign τ0 w w3) ∧ w3.heap[w.heap.size]? = some (.cells #[.slice none 0 0, .slice none 0 0, .slice none 0 0, .int .i64 0] 49) ∧ w3.heap[w.heap.size + 1]? = some (.map effEntries 15) ∧
        wr.heap.size < w3.heap.size ∧ w3.cell? ⟨wr.heap.size, 0, none⟩ = some (.int .i64 op) ∧ w3.cell? ⟨wr.heap.size, 1, none⟩ = some (.int .i64 to) ∧ w3.cell? ⟨wr.heap.size, 2, none⟩ = some (.int .i64 a) ∧ w3.cell? ⟨wr.heap.size, 3, none⟩ = some (.int .i64 bb) ∧ w3.cell? ⟨wr.heap.size, 4, none⟩ = some (.int .u32 arg)) ?_ ?_
          · have hmb : ∀ k, k ≠ L.mb → ((w2.setCell ⟨L.mb, 14, none⟩ (.int .i64 (s.steps + 1))).drewN n).heap[k]? = w2.heap[k]? := fun k hk => Below.heap_setCell _ _ _ _ hk
            have hbx : wr.heap.size ≠ L.mb := by omega
            refine ⟨{ s with steps := s.steps + 1 }, by rw [if_pos HO.out, tick, if_pos hsf], F.tick hsf, rfl, rfl, (R2.setSteps _).below (below_drewN (Below.refl _ _) n), ⟨below_drewN (hb2.setCell R2.bm _) n, ?_⟩, ?_, ?_, ?_, ?_, ?_, ?_, ?_, ?_⟩
            · intro k hk ht; rw [hmb k (htg k (by rw [RA.tg k hk ht]; exact ht))]; exact hf2 k hk ht
            · rw [hmb _ (htg _ RA.trb)]; exact hres2
            · rw [hmb _ (htg _ RA.ttb)]; exact htab2
            · simpa [World.setCell] using hsz2
            · rw [World.cell?_of_block (hmb _ hbx)]; exact x0
            · rw [World.cell?_of_block (hmb _ hbx)]; exact x1
            · rw [World.cell?_of_block (hmb _ hbx)]; exact x2
            · rw [World.cell?_of_block (hmb _ hbx)]; exact x3
            · rw [World.cell?_of_block (hmb _ hbx)]; exact x4
          rintro w3 ⟨s1, hs1, F1, hpc1, hlo1, R3, ⟨hb3, hf3⟩, hres3, htab3, hsz3, y0, y1, y2, y3, y4⟩
          clear x0 x1 x2 x3 x4 hsz2
          have HS1 := Lib.hid hs1
          obtain ⟨ck, ar, h30, h29⟩ := HI.out s RA.inv hpc
          rw [HIi.out] at ck ar h30 h29
          have tabc := eff_tab R3 F1 ⟨op, to, a, bb, arg⟩ ck ar (by rw [hpc1]; exact hpc) (fun h => by rw [hlo1]; exact h30 h) (fun h => by rw [hlo1]; exact h29 h)
          have hl := run_lookup_int (P := Try.prog) (T := 123) Try.underlying123 Try.underlying3 w3 (w.heap.size + 1) effEntries 15 htab3 op eff_keys .nilFunc (zero_eff _)
          have HP := Lib.hid (And.intro hres3 htab3)
          clear hs1 hpc1 hlo1 hres3 htab3 ck ar h30 h29 hres2 htab2
          have fin4 : ∀ s2 w4 τ' lv' ov', effect c s1 ⟨op, to, a, bb, arg⟩ = .ok s2 → Below B w3 w4 → Foreign τ w3 w4 → Rep B L c s2 τ' lv' ov' w4 → (∀ k, k < w3.heap.size → 1000 ≤ τ k → τ' k = τ k) →
              s2.pc + 1 ≤ 16384 ∧ μ { s2 with pc := s2.pc + 1 } < μ s ∧ RunRel B L c Inv μ fin (fin s0) w.heap.size (w.heap.size + 1) τ0 w (μ { s2 with pc := s2.pc + 1 }) (w4.setCell ⟨L.mb, 15, none⟩ (.int .i64 ((s2.pc : Int) + 1))) := by
            intro s2 w4 τ' lv' ov' he hb4 hfo R4 htag
            have hm : mstep c s = .ok { s2 with pc := s2.pc + 1 } := by
              simp only [mstep, HIi.out, HS1.out, Except.bind, he]
            obtain ⟨i1, i2⟩ := HS.out s _ RA.inv hpc hm
            have F2 := HF.out _ i1
            have hp2 := F2.pc
            have hp3 := F2.clen
            simp only at hp2
            obtain ⟨hres3, htab3⟩ := HP.out
            have l1 : w.heap.size < w3.heap.size := (Array.getElem?_eq_some_iff.1 hres3).1
            have l2 : w.heap.size + 1 < w3.heap.size := (Array.getElem?_eq_some_iff.1 htab3).1
            have tr1 : 1000 ≤ τ' w.heap.size := by rw [htag _ l1 RA.trb]; exact RA.trb
            have tr2 : 1000 ≤ τ' (w.heap.size + 1) := by rw [htag _ l2 RA.ttb]; exact RA.ttb
            have ne1 : w.heap.size ≠ L.mb := fun e => by rw [e, R4.tm] at tr1; omega
            have ne2 : w.heap.size + 1 ≠ L.mb := fun e => by rw [e, R4.tm] at tr2; omega
            refine ⟨by omega, i2, { s2 with pc := s2.pc + 1 }, τ', lv', ov', ⟨by simpa using R4.setPc (s2.pc + 1), i1, ?_, (hb3.trans hb4).setCell R4.bm _, ?_, ?_, tr1, tr2, RA.hrb, ?_, ?_⟩, rfl⟩
            · rw [← RA.fin, Hfin.out s RA.inv, if_pos hpc, hm]; rfl
            · rw [Below.heap_setCell _ _ _ _ ne1, hfo _ l1 RA.trb]; exact hres3
            · rw [Below.heap_setCell _ _ _ _ ne2, hfo _ l2 RA.ttb]; exact htab3
            · intro k hk ht
              have hk3 : k < w3.heap.size := Nat.lt_of_lt_of_le hk hb3.size
              have ht3 : 1000 ≤ τ k := by rw [RA.tg k hk ht]; exact ht
              have ht4 : 1000 ≤ τ' k := by rw [htag k hk3 ht3]; exact ht3
              rw [Below.heap_setCell _ _ _ _ (fun e => by simp at e; rw [e, R4.tm] at ht4; omega), hfo k hk3 ht3]; exact hf3 k hk ht
            · intro k hk ht
              have hk3 : k < w3.heap.size := Nat.lt_of_lt_of_le hk hb3.size
              rw [htag k hk3 (by rw [RA.tg k hk ht]; exact ht), RA.tg k hk ht]
          have err4 : ∀ n, effect c s1 ⟨op, to, a, bb, arg⟩ = .error n → fin s0 = .error n := by
            intro n he
            rw [← RA.fin, Hfin.out s RA.inv, if_pos hpc]
            simp only [mstep, HIi.out, HS1.out, Except.bind, he]
          have H4 := Lib.hid fin4
          have HE4 := Lib.hid err4
          clear fin4 err4
          rcases tabc with ⟨f, hv, hent, hcall⟩ | ⟨hv, hcall⟩
          all_goals
            rw [hv] at hl
            simp only [Option.getD_some, Option.isSome_some, Option.getD_none, Option.isSome_none] at hl
            have HC := Lib.hid hcall
            clear hcall hv
            go_wp2_with fail
            refine (HC.out).mono ?_
            intro e w4 hpost
            generalize heff : effect c s1 ⟨op, to, a, bb, arg⟩ = r at hpost
            have HEF := Lib.hid heff
            clear heff
            cases r with
            | error n =>
              obtain ⟨rfl, hb4, hfo4⟩ := hpost
              refine ⟨rfl, ?_⟩
              rw [HE4.out n HEF.out]
              exact ⟨rfl, hb3.trans hb4, fun k hk ht => by rw [hfo4 k (Nat.lt_of_lt_of_le hk hb3.size) (by rw [RA.tg k hk ht]; exact ht)]; exact hf3 k hk ht⟩
            | ok s2 =>
              obtain ⟨rfl, hb4, hfo, τ', lv', ov', R4, htag⟩ := hpost
              obtain ⟨p1, p2, p3⟩ := H4.out s2 w4 τ' lv' ov' HEF.out hb4 hfo R4 htag
              have d15 : w4.cell? ⟨L.mb, 15, none⟩ = some (.int .i64 s2.pc) := R4.mac.cell 15
              have z15 := R4.mac.frozen 15
              have HP3 := Lib.hid p3
              clear p3 htag hfo
              go_wp2_with fail
              go_roundg (μ { s2 with pc := s2.pc + 1 })
              case measure => rw [← HK.out]; exact p2
              case rel => exact HP3.out
        · go_wp2_with fail
          refine (step_no L.mb s.steps c.fuel w2 (R2.mac.cell 14) (R2.mac.cell 9) (by omega)).mono ?_
          rintro e w3 ⟨rfl, n, rfl⟩
          have hf : fin s0 = .error 19 := by
            rw [← RA.fin, Hfin.out s RA.inv, if_pos hpc]
            simp only [mstep, HIi.out]
            rw [if_pos HO.out, tick, if_neg (by omega)]
            rfl
          refine ⟨rfl, ?_⟩
          rw [hf]
          exact ⟨rfl, below_drewN hb2 n, fun k hk ht => hf2 k hk ht⟩
    · obtain ⟨oa, oc, rfl⟩ : ∃ oa oc, ov = .slice oa s.out.length oc := by
        rcases RA.rep.oown.2 with ⟨h1, h2⟩ | ⟨g, cc, cur, h1, _⟩
        · exact ⟨none, 0, by rw [h1, h2]⟩
        · exact ⟨_, cc, h1⟩
      have hd : decide ((s.pc : Int) < (c.cd.length : Int)) = false := by simp; omega
      have hd2 : decide (s.pc < c.cd.length) = false := by simp; omega
      have c3 : wr.cell? ⟨L.mb, 3, none⟩ = some (.slice L.codeA c.cd.length L.codeC) := RA.rep.mac.cell 3
      have c5 : wr.cell? ⟨L.mb, 5, none⟩ = some (.slice L.arrA s.arr.length L.arrC) := RA.rep.mac.cell 5
      have c6 : wr.cell? ⟨L.mb, 5 + 1, none⟩ = some (.slice (some ⟨L.cb, 0, none⟩) s.ctx.length L.ccap) := RA.rep.mac.cell 6
      have c13 : wr.cell? ⟨L.mb, 13, none⟩ = some (.slice oa s.out.length oc) := RA.rep.mac.cell 13
      have c14 : wr.cell? ⟨L.mb, 14, none⟩ = some (.int .i64 s.steps) := RA.rep.mac.cell 14
      have hrl : w.heap.size < wr.heap.size := (Array.getElem?_eq_some_iff.1 RA.res).1
      have hrB : Blk wr w.heap.size [.slice none 0 0, .slice none 0 0, .slice none 0 0, .int .i64 0] 49 := RA.res
      have z0 : wr.cell? ⟨w.heap.size, 0, none⟩ = some (.slice none 0 0) := hrB.cell 0
      have z1 : wr.cell? ⟨w.heap.size, 0 + 1, none⟩ = some (.slice none 0 0) := hrB.cell 1
      have z2 : wr.cell? ⟨w.heap.size, 0 + 1 + 1, none⟩ = some (.slice none 0 0) := hrB.cell 2
      have z3 : wr.cell? ⟨w.heap.size, 0 + 1 + 1 + 1, none⟩ = some (.int .i64 0) := hrB.cell 3
      have f0 := hrB.frozen 0
      have f1 := hrB.frozen (0 + 1)
      have f2 := hrB.frozen (0 + 1 + 1)
      have f3 := hrB.frozen (0 + 1 + 1 + 1)
      go_wp2
      refine wp_region_grew [3, 8] [0, 1, 2, 4, 5, 6, 7, 9, 10] [(2, 0), (2, 1), (2, 2), (2, 4), (2, 5), (2, 6), (2, 7), (1, 3), (1, 8), (2, 9), (2, 10)] (by kernel_rfl) (by kernel_rfl) (fun c a d v w h => by cases d <;> exact h) ?_
      simp only [getPlan, List.filterMap_cons, List.filterMap_nil, List.getElem?_toArray, List.getElem?_cons_succ, List.getElem?_cons_zero, Option.map_some]
      repeat ((first | refine wpPlan_pure (fun K hK => ?_) | refine wpPlan_float (fun K hK => ?_)); go_simp; refine hK _ ?_; clear hK K)
      refine wpPlan_nil ?_
      go_wp2_with fail
      refine wp_region_grew [3, 7, 11] [0, 1, 2, 4, 5, 6, 8, 9, 10, 12] [(2, 0), (2, 1), (2, 2), (2, 4), (2, 5), (2, 6), (2, 8), (2, 9), (2, 10), (1, 3), (1, 7), (1, 11), (2, 12), (0, 13)] (by kernel_rfl) (by kernel_rfl) (fun c a d v w h => by cases d <;> exact h) ?_
      simp only [getPlan, List.filterMap_cons, List.filterMap_nil, List.getElem?_toArray, List.getElem?_cons_succ, List.getElem?_cons_zero, Option.map_some]
      repeat ((first | refine wpPlan_pure (fun K hK => ?_) | refine wpPlan_float (fun K hK => ?_)); go_simp; refine hK _ ?_; clear hK K)
      refine wpPlan_tail (by kernel_rfl) ?_
      simp only [List.map_cons, List.map_nil]
      go_wp2
      refine bodyPost_ret (v := .agg #[.slice L.arrA s.arr.length L.arrC, .slice (some ⟨L.cb, 0, none⟩) s.ctx.length L.ccap, .slice oa s.out.length oc, .int .i64 s.steps]) ?_ rfl ?_
      · have e0 := ((((hrB.set 0 (.slice L.arrA s.arr.length L.arrC)).set 1 (.slice (some ⟨L.cb, 0, none⟩) s.ctx.length L.ccap)).set 2 (.slice oa s.out.length oc)).set 3 (.int .i64 s.steps))
        have y0 := e0.cell 0
        have y1 := e0.cell 1
        have y2 := e0.cell 2
        have y3 := e0.cell 3
        simp only [List.set_cons_zero, List.set_cons_succ, List.getElem?_cons_zero, List.getElem?_cons_succ] at y0 y1 y2 y3
        simp [results, Try.results54, go_sem, y0, y1, y2, y3]
      · have hf : fin s0 = .ok s := by rw [← RA.fin, Hfin.out s RA.inv, if_neg hpc]
        rw [hf]
        have ha := F.arr
        have hax := F.amax
        have r1 := (((RA.rep.foreign RA.trb RA.hrb (by omega) 0 (.slice L.arrA s.arr.length L.arrC)).foreign RA.trb RA.hrb (by omega) 1 (.slice (some ⟨L.cb, 0, none⟩) s.ctx.length L.ccap)).foreign RA.trb RA.hrb (by omega) 2
          (.slice oa s.out.length oc)).foreign RA.trb RA.hrb (by omega) 3 (.int .i64 s.steps)
        refine ⟨((((RA.bel.setCell RA.hrb _).setCell RA.hrb _).setCell RA.hrb _).setCell RA.hrb _).drew.drew, ?_, τ, lv, _, r1.below ((Below.refl _ _).drew.drew), RA.tg, rfl⟩
        intro k hk ht
        have hkw : k ≠ w.heap.size := by omega
        show (((((wr.setCell _ _).setCell _ _).setCell _ _).setCell _ _)).heap[k]? = _
        rw [Below.heap_setCell _ _ _ _ hkw, Below.heap_setCell _ _ _ _ hkw, Below.heap_setCell _ _ _ _ hkw, Below.heap_setCell _ _ _ _ hkw]
        exact RA.fo k hk ht

end Go.Proofs.Ytefdnjhhaejgbaa

namespace Go.Proofs.Ytefdnjhhaejgbaa
open Go.RowKit
set_option linter.unusedVariables false

theorem neq_nil_nil (w : World) : (binOp .neq 20 .nilIface .nilIface).run Try.prog w = .ok (.bool false) w := by kernel_rfl
theorem neq_held_nil (n : Int) (w : World) : (binOp .neq 20 (.iface 121 (.agg #[.int .i64 n])) .nilIface).run Try.prog w = .ok (.bool true) w := by kernel_rfl
theorem assert_failure (n : Int) (w : World) : (Instr.typeAssert (.iface 121 (.agg #[.int .i64 n])) 20 121 true).run Try.prog w = .ok (.tuple #[.agg #[.int .i64 n], .bool true]) w := by kernel_rfl

theorem tmps_catch (p q x : Value) : #[p, q] ++ ((Array.replicate 18 undef).setIfInBounds 4 x).setIfInBounds 0 x =
    #[p, q, x, undef, undef, undef, x, undef, undef, undef, undef, undef, undef, undef, undef, undef, undef, undef, undef, undef] := by kernel_rfl

set_option maxRecDepth 100000 in
set_option maxHeartbeats 1000000 in
theorem catch_idle (ob eb : Nat) (w : World) :
    CallsD Try.prog 85 #[.pointer (some ⟨ob, 0, none⟩), .pointer (some ⟨eb, 0, none⟩)] .returning w fun e u' w' => e = .returned (.tuple #[]) ∧ u' = .returning ∧ w' = w := by
  refine callsD_of_wpS Try.func85 rfl fun c₀ cs hu => ?_
  apply wpS_seq
  apply wpS_region
  simp [wpOpsS, go_sem, recoverD, hu, Try.ntmps85, Exit.thenS]
  refine wpS_of_wp ?_
  rw [tmps_catch]
  have hq := neq_nil_nil
  go_wp2
  cases c₀
  simp_all [bodyPostS, results, Try.results85]

def zeroRun : List Value := [.slice none 0 0, .slice none 0 0, .slice none 0 0, .int .i64 0]

theorem zeroRun_set : (((zeroRun.set 0 (.slice none 0 0)).set 1 (.slice none 0 0)).set 2 (.slice none 0 0)).set 3 (.int .i64 0) = zeroRun := rfl
theorem drew_heap (w : World) : w.drew.heap = w.heap := rfl
theorem Blk.drew {w : World} {b : Nat} {cs : List Value} {t : TypeId} (h : Blk w b cs t) : Blk w.drew b cs t := h

def CatchCls (s : Nat) (n : Int) (x : World) : Prop :=
  x.cell? ⟨s, 0, none⟩ = some (.int .i64 n) ∧ x.cell? ⟨s + 1, 0, none⟩ = some (.slice none 0 0) ∧ x.cell? ⟨s + 1, 0 + 1, none⟩ = some (.slice none 0 0) ∧ x.cell? ⟨s + 1, 0 + 1 + 1, none⟩ = some (.slice none 0 0) ∧ x.cell? ⟨s + 1, 0 + 1 + 1 + 1, none⟩ = some (.int .i64 0)
theorem CatchCls.set {s : Nat} {n : Int} {x : World} (h : CatchCls s n x) {ob : Nat} (ho : ob < s) (j : Nat) (v : Value) : CatchCls s n (x.setCell ⟨ob, j, none⟩ v) := by
  have e1 : ∀ i, (x.setCell ⟨ob, j, none⟩ v).cell? ⟨s, i, none⟩ = x.cell? ⟨s, i, none⟩ := fun i => World.cell?_of_block (Below.heap_setCell _ _ _ _ (by show s ≠ ob; omega))
  have e2 : ∀ i, (x.setCell ⟨ob, j, none⟩ v).cell? ⟨s + 1, i, none⟩ = x.cell? ⟨s + 1, i, none⟩ := fun i => World.cell?_of_block (Below.heap_setCell _ _ _ _ (by show s + 1 ≠ ob; omega))
  exact ⟨by rw [e1]; exact h.1, by rw [e2]; exact h.2.1, by rw [e2]; exact h.2.2.1, by rw [e2]; exact h.2.2.2.1, by rw [e2]; exact h.2.2.2.2⟩

set_option maxRecDepth 100000 in
set_option maxHeartbeats 2000000 in
theorem catch_panicking (ob eb : Nat) (n x : Int) (older : List PanicEntry) (w : World) (ho : Blk w ob zeroRun 49) (he : Blk w eb [.int .i64 x] 32) (hne : ¬ ob = eb) (hne2 : ¬ eb = ob) :
    CallsD Try.prog 85 #[.pointer (some ⟨ob, 0, none⟩), .pointer (some ⟨eb, 0, none⟩)] (.panicking ({ v := .iface 121 (.agg #[.int .i64 n]), recovered := false } :: older)) w fun e u' w' =>
      e = .returned (.tuple #[]) ∧ u' = .panicking ({ v := .iface 121 (.agg #[.int .i64 n]), recovered := true } :: older) ∧
        Blk w' ob zeroRun 49 ∧ Blk w' eb [.int .i64 n] 32 ∧ (∀ k, k < w.heap.size → k ≠ ob → k ≠ eb → w'.heap[k]? = w.heap[k]?) ∧ w'.os = w.os ∧ w'.tape = w.tape ∧ w'.output = w.output ∧ w.heap.size ≤ w'.heap.size := by
  have hq := neq_held_nil n
  have hta := assert_failure n
  have hol := ho.lt
  have hel := he.lt
  refine callsD_of_wpS Try.func85 rfl fun c₀ cs hu => ?_
  apply wpS_seq
  apply wpS_region
  simp [wpOpsS, go_sem, recoverD, hu, Try.ntmps85, Exit.thenS]
  refine wpS_of_wp ?_
  rw [tmps_catch]
  go_wp2
  refine wp_gen (fun w1 => Below w.heap.size w w1 ∧ w.heap.size < w1.heap.size ∧ w.heap.size + 1 < w1.heap.size ∧ w1.cell? ⟨w.heap.size, 0, none⟩ = some (.int .i64 n) ∧ Blk w1 (w.heap.size + 1) zeroRun 49) ?_ ?_
  · refine ⟨((Below.refl _ _).alloc (by simp) _).alloc (by simp) _, by simp; omega, by simp, by simp [go_sem], heap_new2 _ _ _⟩
  rintro w1 ⟨hb1, hs1, hs2, x0, hz⟩
  have y0 : w1.cell? ⟨w.heap.size + 1, 0, none⟩ = some (.slice none 0 0) := hz.cell 0
  have y1 : w1.cell? ⟨w.heap.size + 1, 0 + 1, none⟩ = some (.slice none 0 0) := hz.cell 1
  have y2 : w1.cell? ⟨w.heap.size + 1, 0 + 1 + 1, none⟩ = some (.slice none 0 0) := hz.cell 2
  have y3 : w1.cell? ⟨w.heap.size + 1, 0 + 1 + 1 + 1, none⟩ = some (.int .i64 0) := hz.cell 3
  have ho1 := ho.below hb1 hol
  have he1 := he.below hb1 hel
  have z0 : w1.cell? ⟨ob, 0, none⟩ = some (.slice none 0 0) := ho1.cell 0
  have z1 : w1.cell? ⟨ob, 0 + 1, none⟩ = some (.slice none 0 0) := ho1.cell 1
  have z2 : w1.cell? ⟨ob, 0 + 1 + 1, none⟩ = some (.slice none 0 0) := ho1.cell 2
  have z3 : w1.cell? ⟨ob, 0 + 1 + 1 + 1, none⟩ = some (.int .i64 0) := ho1.cell 3
  have f0 := ho1.frozen 0
  have f1 := ho1.frozen (0 + 1)
  have f2 := ho1.frozen (0 + 1 + 1)
  have f3 := ho1.frozen (0 + 1 + 1 + 1)
  have ze : w1.cell? ⟨eb, 0, none⟩ = some (.int .i64 x) := he1.cell 0
  have fe := he1.frozen 0
  have hcls : CatchCls w.heap.size n w1 := ⟨x0, y0, y1, y2, y3⟩
  have _inst : Nonempty (CWorld (CatchCls w.heap.size n)) := ⟨⟨w1, hcls⟩⟩
  have p0 : ∀ p : CWorld (CatchCls w.heap.size n), p.w.cell? ⟨w.heap.size, 0, none⟩ = some (.int .i64 n) := fun p => p.h.1
  have p1 : ∀ p : CWorld (CatchCls w.heap.size n), p.w.cell? ⟨w.heap.size + 1, 0, none⟩ = some (.slice none 0 0) := fun p => p.h.2.1
  have p2 : ∀ p : CWorld (CatchCls w.heap.size n), p.w.cell? ⟨w.heap.size + 1, 0 + 1, none⟩ = some (.slice none 0 0) := fun p => p.h.2.2.1
  have p3 : ∀ p : CWorld (CatchCls w.heap.size n), p.w.cell? ⟨w.heap.size + 1, 0 + 1 + 1, none⟩ = some (.slice none 0 0) := fun p => p.h.2.2.2.1
  have p4 : ∀ p : CWorld (CatchCls w.heap.size n), p.w.cell? ⟨w.heap.size + 1, 0 + 1 + 1 + 1, none⟩ = some (.int .i64 0) := fun p => p.h.2.2.2.2
  refine wp_region_mix (Cls (CatchCls w.heap.size n)) [0, 2] [1] [(2, 1), (1, 0), (1, 2), (0, 3), (0, 4)] (by kernel_rfl) (by kernel_rfl) (fun c a d v w h => by cases d <;> exact h) ⟨⟨w1.drew, hcls⟩, rfl⟩ ?_
  simp only [getPlan, List.filterMap_cons, List.filterMap_nil, List.getElem?_toArray, List.getElem?_cons_succ, List.getElem?_cons_zero, Option.map_some]
  repeat ((first | refine wpPlan_pure (fun K hK => ?_) | refine wpPlan_float (fun K hK => ?_)); go_simp; refine hK _ ?_; clear hK K)
  clear p0 p1 p2 p3 p4
  refine wpPlan_keep ?_
  go_wp2_with fail
  refine ⟨⟨CWorld.mk _ ?_, rfl⟩, ?_⟩
  · exact (((hcls.set hol 0 _).set hol 1 _).set hol 2 _).set hol 3 _
  refine wpPlan_tail (by kernel_rfl) ?_
  simp only [List.map_cons, List.map_nil]
  go_wp2
  have b1 := ((((ho1.set 0 (.slice none 0 0)).set 1 (.slice none 0 0)).set 2 (.slice none 0 0)).set 3 (.int .i64 0)).other (a := ⟨eb, 0, none⟩) hne (.int .i64 n)
  have b2 := ((((he1.other (a := ⟨ob, 0, none⟩) hne2 (.slice none 0 0)).other (a := ⟨ob, 1, none⟩) hne2 (.slice none 0 0)).other (a := ⟨ob, 2, none⟩) hne2 (.slice none 0 0)).other (a := ⟨ob, 3, none⟩) hne2 (.int .i64 0)).set 0 (.int .i64 n)
  have b3 : ∀ k, k < w.heap.size → k ≠ ob → k ≠ eb → (((((w1.setCell ⟨ob, 0, none⟩ (.slice none 0 0)).setCell ⟨ob, 1, none⟩ (.slice none 0 0)).setCell ⟨ob, 2, none⟩ (.slice none 0 0)).setCell ⟨ob, 3, none⟩ (.int .i64 0)).setCell ⟨eb, 0, none⟩ (.int .i64 n)).heap[k]? = w.heap[k]? := by
    intro k hk h1 h2
    rw [Below.heap_setCell _ _ _ _ h2, Below.heap_setCell _ _ _ _ h1, Below.heap_setCell _ _ _ _ h1, Below.heap_setCell _ _ _ _ h1, Below.heap_setCell _ _ _ _ h1, hb1.block k hk]
  cases c₀
  simp only at hu
  subst hu
  simp only [bodyPostS]
  refine ⟨trivial, _, rfl, ?_⟩
  refine ⟨_, results_none rfl _ _ _, ?_⟩
  refine ⟨rfl, rfl, ?_⟩
  refine ⟨?_, ?_, ?_, ?_, ?_, ?_, ?_⟩
  · have h1 := b1
    rw [zeroRun_set] at h1
    exact h1.drew
  · have h2 := b2
    simp only [List.set_cons_zero] at h2
    exact h2.drew
  · intro k hk h1 h2
    rw [drew_heap]
    exact b3 k hk h1 h2
  · exact hb1.os
  · exact hb1.tape
  · exact hb1.output
  · rw [drew_heap]
    have h3 := hb1.size
    simpa [World.setCell] using h3

end Go.Proofs.Ytefdnjhhaejgbaa

namespace Go.Proofs.Ytefdnjhhaejgbaa
open Go.RowKit
set_option linter.unusedVariables false

/-- what is said behind the guard -/
def GuardPost (B : Nat) (L : Lay) (c : MC) (τ0 : Nat → Nat) (w : World) (r : Except Int PS) (e : Ending) (w' : World) : Prop :=
  Below B w w' ∧ Foreign τ0 w w' ∧
  match r with
  | .ok s => ∃ τ lv ov, Rep B L c s τ lv ov w' ∧ (∀ k, k < w.heap.size → 1000 ≤ τ0 k → τ k = τ0 k) ∧ e = .returned (.tuple #[.agg #[.slice L.arrA s.arr.length L.arrC, .slice (some ⟨L.cb, 0, none⟩) s.ctx.length L.ccap, ov, .int .i64 s.steps], .int .i64 0])
  | .error n => e = .returned (.tuple #[.agg #[.slice none 0 0, .slice none 0 0, .slice none 0 0, .int .i64 0], .int .i64 n])

set_option maxRecDepth 100000 in
set_option maxHeartbeats 1000000 in
theorem guarded_ok {B : Nat} {L : Lay} {c : MC} {s0 s : PS} {τ0 : Nat → Nat} {lv0 ov0 : Value} {w : World} (R0 : Rep B L c s0 τ0 lv0 ov0 w) (hn : ∀ s' : PS, s'.arr.length = s.arr.length → s'.arr.length ≤ 900)
    (hrun : ∀ τ1 w1, Rep B L c s0 τ1 lv0 ov0 w1 → Calls Try.prog 54 #[.pointer (some ⟨L.mb, 0, none⟩)] w1 (RunPost B L c τ1 w1 (.ok s))) :
    Calls Try.prog 53 #[.func (.func 54) #[.pointer (some ⟨L.mb, 0, none⟩)] #[]] w (GuardPost B L c τ0 w (.ok s)) := by
  have hmf : ∀ (fn : Fn) (first cap : Array Value) (w : World), (Instr.makeFunc fn first cap).run Try.prog w = .ok (.func fn first cap) w := fun _ _ _ _ => rfl
  have hbw : Below w.heap.size w ((w.alloc (.cells #[.slice none 0 0, .slice none 0 0, .slice none 0 0, .int .i64 0] 49)).alloc (.cells #[.int .i64 0] 32)) := ((Below.refl _ _).alloc (by simp) _).alloc (by simp) _
  have R1 := R0.retag.below hbw
  have HR := Lib.hid R1
  have HRU := Lib.hid hrun
  have HB := Lib.hid hbw
  have HN := Lib.hid hn
  clear hrun R1 hbw hn
  go_enter_defers Try.func53, Try.ntmps53
  go_wp2_with fail
  refine (HRU.out _ _ HR.out).mono ?_
  rintro e w2 ⟨hb2, hf2, τ, lv, ov, R2, htg, rfl⟩
  have t1 : 1000 ≤ τ w.heap.size := by rw [htg w.heap.size (by simp; omega) (by simp)]; simp
  have t2 : 1000 ≤ τ (w.heap.size + 1) := by rw [htg (w.heap.size + 1) (by simp) (by simp)]; simp
  have HTG := Lib.hid htg
  clear htg
  obtain ⟨oa, oc, rfl⟩ : ∃ oa oc, ov = .slice oa s.out.length oc := by
    rcases R2.oown.2 with ⟨h1, h2⟩ | ⟨g, cc, cur, h1, _⟩
    · exact ⟨none, 0, by rw [h1, h2]⟩
    · exact ⟨_, cc, h1⟩
  have ho : Blk w2 w.heap.size zeroRun 49 := by
    unfold Blk
    rw [hf2 w.heap.size (by simp; omega) (by simp), Below.heap_alloc _ _ _ (by simp)]
    exact heap_new1 w _
  have he : Blk w2 (w.heap.size + 1) [.int .i64 0] 32 := by
    unfold Blk
    rw [hf2 (w.heap.size + 1) (by simp) (by simp)]
    exact heap_new2 w _ _
  have z0 : w2.cell? ⟨w.heap.size, 0, none⟩ = some (.slice none 0 0) := ho.cell 0
  have z1 : w2.cell? ⟨w.heap.size, 0 + 1, none⟩ = some (.slice none 0 0) := ho.cell 1
  have z2 : w2.cell? ⟨w.heap.size, 0 + 1 + 1, none⟩ = some (.slice none 0 0) := ho.cell 2
  have z3 : w2.cell? ⟨w.heap.size, 0 + 1 + 1 + 1, none⟩ = some (.int .i64 0) := ho.cell 3
  have f0 := ho.frozen 0
  have f1 := ho.frozen (0 + 1)
  have f2 := ho.frozen (0 + 1 + 1)
  have f3 := ho.frozen (0 + 1 + 1 + 1)
  have ze : w2.cell? ⟨w.heap.size + 1, 0, none⟩ = some (.int .i64 0) := he.cell 0
  have fe := he.frozen 0
  have HX := Lib.hid hb2
  have HY := Lib.hid hf2
  clear hb2 hf2
  go_wp2
  refine leaves_cons (f := 85) (args := #[.pointer (some ⟨w.heap.size, 0, none⟩), .pointer (some ⟨w.heap.size + 1, 0, none⟩)]) (by simp) (by simp [go_sem]) ?_
  refine (catch_idle w.heap.size (w.heap.size + 1) _).mono ?_
  rintro e u' w'' ⟨rfl, rfl, rfl⟩
  have hne : ¬ w.heap.size = w.heap.size + 1 := by omega
  have hne2 : ¬ w.heap.size + 1 = w.heap.size := by omega
  have e0 := ((((ho.set 0 (.slice L.arrA s.arr.length L.arrC)).set 1 (.slice (some ⟨L.cb, 0, none⟩) s.ctx.length L.ccap)).set 2 (.slice oa s.out.length oc)).set 3 (.int .i64 s.steps)).other (a := ⟨w.heap.size + 1, 0, none⟩) hne (.int .i64 0)
  have e1 := ((((he.other (a := ⟨w.heap.size, 0, none⟩) hne2 (.slice L.arrA s.arr.length L.arrC)).other (a := ⟨w.heap.size, 1, none⟩) hne2 (.slice (some ⟨L.cb, 0, none⟩) s.ctx.length L.ccap)).other (a := ⟨w.heap.size, 2, none⟩) hne2 (.slice oa s.out.length oc)).other (a := ⟨w.heap.size, 3, none⟩) hne2 (.int .i64 s.steps)).set 0 (.int .i64 0)
  have y0 := e0.cell 0
  have y1 := e0.cell 1
  have y2 := e0.cell 2
  have y3 := e0.cell 3
  have y4 := e1.cell 0
  simp only [zeroRun, List.set_cons_zero, List.set_cons_succ, List.getElem?_cons_zero, List.getElem?_cons_succ] at y0 y1 y2 y3 y4
  refine ⟨.tuple #[.agg #[.slice L.arrA s.arr.length L.arrC, .slice (some ⟨L.cb, 0, none⟩) s.ctx.length L.ccap, .slice oa s.out.length oc, .int .i64 s.steps], .int .i64 0], ?_, ?_⟩
  · simp [results, Try.results53, go_sem, y0, y1, y2, y3, y4]
  · have hn2 := HN.out s rfl
    have hB := R0.hB
    have r1 := ((((R2.foreign t1 hB hn2 0 (.slice L.arrA s.arr.length L.arrC)).foreign t1 hB hn2 1 (.slice (some ⟨L.cb, 0, none⟩) s.ctx.length L.ccap)).foreign t1 hB hn2 2 (.slice oa s.out.length oc)).foreign t1 hB hn2 3 (.int .i64 s.steps)).foreign t2 (Nat.le_succ_of_le hB) hn2 0 (.int .i64 0)
    have hbB : Below B w w2 := (HB.out.mono hB).trans HX.out
    refine ⟨((((hbB.setCell hB _).setCell hB _).setCell hB _).setCell hB _).setCell (Nat.le_succ_of_le hB) _, ?_, τ, lv, _, r1, ?_, rfl⟩
    rotate_left
    · intro k hk ht
      have := HTG.out k (by simp; omega) (by show 1000 ≤ (if _ then _ else _); rw [if_neg (by omega)]; exact ht)
      rw [this]; show (if _ then _ else _) = _; rw [if_neg (by omega)]
    intro k hk ht
    rw [Below.heap_setCell _ _ _ _ (by show k ≠ w.heap.size + 1; omega), Below.heap_setCell _ _ _ _ (by show k ≠ w.heap.size; omega), Below.heap_setCell _ _ _ _ (by show k ≠ w.heap.size; omega), Below.heap_setCell _ _ _ _ (by show k ≠ w.heap.size; omega), Below.heap_setCell _ _ _ _ (by show k ≠ w.heap.size; omega)]
    rw [HY.out k (by simp; omega) (by show 1000 ≤ (if _ then _ else _); rw [if_neg (by omega)]; exact ht), HB.out.block k hk]

set_option maxRecDepth 100000 in
set_option maxHeartbeats 1000000 in
theorem guarded_err {B : Nat} {L : Lay} {c : MC} {s0 : PS} {n : Int} {τ0 : Nat → Nat} {lv0 ov0 : Value} {w : World} (R0 : Rep B L c s0 τ0 lv0 ov0 w)
    (hrun : ∀ τ1 w1, Rep B L c s0 τ1 lv0 ov0 w1 → Calls Try.prog 54 #[.pointer (some ⟨L.mb, 0, none⟩)] w1 (RunPost B L c τ1 w1 (.error n))) :
    Calls Try.prog 53 #[.func (.func 54) #[.pointer (some ⟨L.mb, 0, none⟩)] #[]] w (GuardPost B L c τ0 w (.error n)) := by
  have hmf : ∀ (fn : Fn) (first cap : Array Value) (w : World), (Instr.makeFunc fn first cap).run Try.prog w = .ok (.func fn first cap) w := fun _ _ _ _ => rfl
  have hbw : Below w.heap.size w ((w.alloc (.cells #[.slice none 0 0, .slice none 0 0, .slice none 0 0, .int .i64 0] 49)).alloc (.cells #[.int .i64 0] 32)) := ((Below.refl _ _).alloc (by simp) _).alloc (by simp) _
  have R1 := R0.retag.below hbw
  have HR := Lib.hid R1
  have HRU := Lib.hid hrun
  have HB := Lib.hid hbw
  clear hrun R1 hbw
  go_enter_defers Try.func53, Try.ntmps53
  go_wp2_with fail
  refine (HRU.out _ _ HR.out).mono ?_
  rintro e w2 ⟨rfl, hb2, hf2⟩
  have ho : Blk w2 w.heap.size zeroRun 49 := by
    unfold Blk
    rw [hf2 w.heap.size (by simp; omega) (by simp), Below.heap_alloc _ _ _ (by simp)]
    exact heap_new1 w _
  have he : Blk w2 (w.heap.size + 1) [.int .i64 0] 32 := by
    unfold Blk
    rw [hf2 (w.heap.size + 1) (by simp) (by simp)]
    exact heap_new2 w _ _
  refine leaves_cons (f := 85) (args := #[.pointer (some ⟨w.heap.size, 0, none⟩), .pointer (some ⟨w.heap.size + 1, 0, none⟩)]) (by simp) (by simp [go_sem]) ?_
  refine (catch_panicking w.heap.size (w.heap.size + 1) n 0 [] w2 ho he (by omega) (by omega)).mono ?_
  rintro e u' w3 ⟨rfl, rfl, b1, b2, b3, ho3, ht3, hp3, hs3⟩
  have y0 := b1.cell 0
  have y1 := b1.cell 1
  have y2 := b1.cell 2
  have y3 := b1.cell 3
  have y4 := b2.cell 0
  simp only [zeroRun, List.getElem?_cons_zero, List.getElem?_cons_succ] at y0 y1 y2 y3 y4
  have hB := R0.hB
  have hl : w.heap.size + 2 ≤ w2.heap.size := by have := hb2.size; simp at this; omega
  have hfin : GuardPost B L c τ0 w (.error n) (.returned (.tuple #[.agg #[.slice none 0 0, .slice none 0 0, .slice none 0 0, .int .i64 0], .int .i64 n])) w3 := by
    refine ⟨⟨ho3.trans (hb2.os.trans HB.out.os), ht3.trans (hb2.tape.trans HB.out.tape), hp3.trans (hb2.output.trans HB.out.output), by omega, fun k hk => ?_⟩, fun k hk ht => ?_, rfl⟩
    · rw [b3 k (by omega) (by omega) (by omega), hb2.block k hk, HB.out.block k (by omega)]
    · rw [b3 k (by omega) (by omega) (by omega), hf2 k (by simp; omega) (by show 1000 ≤ (if _ then _ else _); rw [if_neg (by omega)]; exact ht), HB.out.block k hk]
  simp [Leaves, settle, results, Try.results53, go_sem, y0, y1, y2, y3, y4]
  exact hfin

end Go.Proofs.Ytefdnjhhaejgbaa

namespace Go.Proofs.Ytefdnjhhaejgbaa
open Go.RowKit
set_option linter.unusedVariables false

theorem Try.elU32 : ElT Try.prog 29 42 (.int .u32 0) 1 4 := ⟨Try.underlying29, by kernel_rfl, rfl, by decide, by decide⟩

theorem oneCell_ints (k : IntKind) (xs : List Int) : ∀ u ∈ ints k xs, u.oneCell' = true := by
  intro u hu
  simp only [ints, List.mem_map] at hu
  obtain ⟨x, _, rfl⟩ := hu
  rfl

theorem own_blk {w : World} {base : Nat} {e : TypeId} {g n cc : Nat} {xs : List Value} (h : w.ownsRow base e 1 (.slice (some ⟨g, 0, none⟩) n cc) n xs) : ∃ t, Blk w g (xs ++ t) e := by
  rcases h.2 with ⟨h1, _⟩ | ⟨g', cc', cur, hv, hb, hgg, hle, hmx, hcs, htk⟩
  · cases h1
  · simp only [Value.slice.injEq, Option.some.injEq, Addr.mk.injEq] at hv
    obtain ⟨⟨rfl, _⟩, _, rfl⟩ := hv
    refine ⟨cur.toList.drop (n * 1), ?_⟩
    unfold Blk
    rw [hgg, ← htk, List.take_append_drop]

set_option maxRecDepth 100000 in
set_option maxHeartbeats 1000000 in
theorem clone_any (b off n cap : Nat) (xs : List Int) (w : World) (hn : xs.length = n) (h0 : 0 < n) (hmax : n ≤ 65536) (hc : ∀ j, j < n → w.cell? ⟨b, off + j, none⟩ = some (.int .u32 (xs.getD j 0))) :
    Calls Try.prog 84 #[.slice (some ⟨b, off, none⟩) n cap] w fun e w' => ∃ g cc t, e = .returned (.slice (some ⟨g, 0, none⟩) n cc) ∧ Blk w' g (ints .u32 xs ++ t) 42 ∧ w.heap.size ≤ g ∧ Below w.heap.size w w' := by
  have q := fun (w : World) (a : Option Addr) (n c n' c' : Nat) => Lib.run_eql_slice_nil (P := Try.prog) w _ _ a n c n' c' Try.underlying29
  obtain ⟨i, hi, hz, h2, h3⟩ := info_parts Try.elU32.info
  have HN := Lib.hid hn
  have HC := Lib.hid hc
  clear hn hc
  go_enter Try.func84, Try.ntmps84
  go_wp2_with (at_builtin; refine wpList_append_lies _ rfl _ _ _ rfl w.heap.size 42 i (.int .u32 0) 1 4 Try.underlying29 hi hz h2 h3 rfl (by decide) (.slice (some ⟨w.heap.size, 0, none⟩) 0 0) 0 [] rfl ?c1 ⟨b, off, none⟩ n cap (ints .u32 xs) rfl ?c2 ?c3 (oneCell_ints _ _) h0 ?c4 ?c5 ?c6 _ rfl ?_)
  case c1 =>
    have := World.ownsRow_lit (base := w.heap.size) (e := 42) (size := 1) w #[] 0 (Nat.le_refl _) (by decide) (by simp)
    simpa using this
  case c2 => have := HN.out; simp [ints]; omega
  case c3 =>
    intro j u hu
    have hj : j < xs.length := by
      have := (List.getElem?_eq_some_iff.1 hu).1
      simpa [ints] using this
    rw [ints_get hj] at hu
    have e : ((⟨b, off, none⟩ : Addr).add j) = ⟨b, off + j, none⟩ := by unfold Addr.add; split <;> simp_all
    have h5 := HC.out j (by have := HN.out; omega)
    have hb : b < w.heap.size := World.block_lt_of_cell? w _ h5
    rw [e, World.cell?_alloc_past _ _ _ hb, h5]
    exact hu
  case c4 => unfold maxLen; omega
  case c5 => omega
  case c6 => simp
  intro g cc w' hown hgrow hat hlt
  have hgb : Below w.heap.size w w' := ((Below.refl _ _).alloc (by simp) _).trans (below_grown hgrow (by simp) (fun k hk => by simp [Value.ownBlock] at hk; omega))
  have hgg : w.heap.size ≤ g := by
    rcases hat with hat | hat
    · simp [Value.ownBlock] at hat; omega
    · omega
  obtain ⟨t, ht⟩ := own_blk hown
  have HT := Lib.hid ht
  clear hown hgrow hat ht
  go_wp2
  go_ret
  exact ⟨g, cc, t, rfl, HT.out, hgg, hgb⟩

end Go.Proofs.Ytefdnjhhaejgbaa

namespace Go.Proofs.Ytefdnjhhaejgbaa
open Go.RowKit
set_option linter.unusedVariables false

theorem Try.elSl : ElT Try.prog 28 29 (.slice none 0 0) 1 24 := ⟨Try.underlying28, by kernel_rfl, rfl, by decide, by decide⟩

/-- numbers that lie behind an address -/
def NumsAt (w : World) (a : Option Addr) (xs : List Int) : Prop :=
  ∃ b off, a = some ⟨b, off, none⟩ ∧ ∀ j, j < xs.length → w.cell? ⟨b, off + j, none⟩ = some (.int .u32 (xs.getD j 0))
/-- a slice of slices of numbers -/
def GridAt (w : World) (qa : Option Addr) (arr : List (List Int)) : Prop :=
  ∀ k, k < arr.length → ∃ q qo a cap, qa = some ⟨q, qo, none⟩ ∧ w.cell? ⟨q, qo + k, none⟩ = some (.slice a (arr.getD k []).length cap) ∧ NumsAt w a (arr.getD k [])

theorem NumsAt.lt {w : World} {b off : Nat} {xs : List Int} (h : ∀ j, j < xs.length → w.cell? ⟨b, off + j, none⟩ = some (.int .u32 (xs.getD j 0))) (h0 : 0 < xs.length) : b < w.heap.size :=
  World.block_lt_of_cell? w _ (h 0 h0)

theorem NumsAt.below {w w' : World} {a : Option Addr} {xs : List Int} (h : NumsAt w a xs) (hb : Below w.heap.size w w') : NumsAt w' a xs := by
  obtain ⟨b, off, ha, hc⟩ := h
  refine ⟨b, off, ha, fun j hj => ?_⟩
  have h1 := hc j hj
  rw [hb.cell (p := ⟨b, off + j, none⟩) (World.block_lt_of_cell? w _ h1)]
  exact h1
theorem GridAt.below {w w' : World} {qa : Option Addr} {arr : List (List Int)} (h : GridAt w qa arr) (hb : Below w.heap.size w w') : GridAt w' qa arr := by
  intro k hk
  obtain ⟨q, qo, a, cap, h1, h2, h3⟩ := h k hk
  exact ⟨q, qo, a, cap, h1, by rw [hb.cell (p := ⟨q, qo + k, none⟩) (World.block_lt_of_cell? w _ h2)]; exact h2, h3.below hb⟩

/-- arrays that were copied so far: the outer slice's value v, the blocks, the caps -/
structure GridOwn (B : Nat) (τ : Nat → Nat) (arr : List (List Int)) (ab ac : Nat → Nat) (v : Value) (w : World) : Prop where
  own : w.ownsRow B 29 1 v arr.length ((List.range arr.length).map fun k => .slice (some ⟨ab k, 0, none⟩) (arr.getD k []).length (ac k))
  blk : ∀ k, k < arr.length → ∃ t, Blk w (ab k) (ints .u32 (arr.getD k []) ++ t) 42
  ta : ∀ k, k < arr.length → τ (ab k) = 7 + k
  to : ∀ g, v.ownBlock = some g → τ g = 4
  ba : ∀ k, k < arr.length → B ≤ ab k

/-- a store into a block that is not the grid's -/
theorem GridOwn.foreign {B : Nat} {τ : Nat → Nat} {arr : List (List Int)} {ab ac : Nat → Nat} {v : Value} {w : World} (h : GridOwn B τ arr ab ac v w) (hn : arr.length ≤ 900) {y : Nat} (hy : 1000 ≤ τ y) (j : Nat) (u : Value) :
    GridOwn B τ arr ab ac v (w.setCell ⟨y, j, none⟩ u) := by
  have hg : w.grownBy (w.setCell ⟨y, j, none⟩ u) (some y) := ⟨rfl, rfl, rfl, by simp [World.setCell], fun k _ hk => Below.heap_setCell _ _ _ _ (fun e => hk (by rw [e]))⟩
  exact { h with
    own := h.own.kept hg (by
      cases hv : v.ownBlock with
      | none => exact .inl rfl
      | some x => right; intro e; have := h.to x hv; rw [Option.some.inj e] at this; omega)
    blk := fun k hk => by
      obtain ⟨t, ht⟩ := h.blk k hk
      exact ⟨t, ht.other (fun e => by have := h.ta k hk; simp at e; rw [e] at this; omega) _⟩ }

theorem getD_snoc_lt {α : Type} (l : List α) (x d : α) {k : Nat} (hk : k < l.length) : (l ++ [x]).getD k d = l.getD k d := by
  rw [List.getD_eq_getElem?_getD, List.getD_eq_getElem?_getD, List.getElem?_append_left hk]
theorem getD_snoc_eq {α : Type} (l : List α) (x d : α) : (l ++ [x]).getD l.length d = x := by
  rw [List.getD_eq_getElem?_getD, List.getElem?_append_right (Nat.le_refl _)]; simp

/-- one array more -/
theorem GridOwn.push {B : Nat} {τ : Nat → Nat} {arr : List (List Int)} {ab ac : Nat → Nat} {v : Value} {w w1 w2 : World} (h : GridOwn B τ arr ab ac v w) (x : List Int) {gx cx g' c' : Nat} {t : List Value}
    (hB : B ≤ w.heap.size) (hb : Below w.heap.size w w1) (hx : Blk w1 gx (ints .u32 x ++ t) 42) (hgx : w.heap.size ≤ gx)
    (hown : w2.ownsRow B 29 1 (.slice (some ⟨g', 0, none⟩) (arr.length + 1) c') (arr.length + 1) (((List.range arr.length).map fun k => .slice (some ⟨ab k, 0, none⟩) (arr.getD k []).length (ac k)) ++ [.slice (some ⟨gx, 0, none⟩) x.length cx]))
    (hg : w1.grownBy w2 v.ownBlock) (hat : v.ownBlock = some g' ∨ w1.heap.size ≤ g') :
    GridOwn B (fun y => if y = gx then 7 + arr.length else if y = g' then 4 else τ y) (arr ++ [x]) (fun k => if k = arr.length then gx else ab k) (fun k => if k = arr.length then cx else ac k) (.slice (some ⟨g', 0, none⟩) (arr.length + 1) c') w2 := by
  have hgx1 := hx.lt
  have vown : ∀ k, v.ownBlock = some k → B ≤ k ∧ k < w.heap.size := h.own.lt
  have hgne : gx ≠ g' := by
    rcases hat with hat | hat
    · have := (vown g' hat).2; omega
    · omega
  have abne : ∀ k, k < arr.length → ab k ≠ gx ∧ ab k ≠ g' ∧ some (ab k) ≠ v.ownBlock := fun k hk => by
    obtain ⟨t', ht'⟩ := h.blk k hk
    have hlt := ht'.lt
    have htag := h.ta k hk
    refine ⟨by omega, fun e => ?_, fun e => ?_⟩
    · rcases hat with hat | hat
      · have := h.to g' hat; rw [← e] at this; omega
      · have := hb.size; omega
    · have := h.to (ab k) e.symm; omega
  have gxr : some gx ≠ v.ownBlock := fun e => by have := (vown gx e.symm).2; omega
  exact {
    own := by
      rw [List.length_append, List.length_singleton, List.range_succ, List.map_append]
      have e1 : (List.range arr.length).map (fun k => Value.slice (some ⟨if k = arr.length then gx else ab k, 0, none⟩) ((arr ++ [x]).getD k []).length (if k = arr.length then cx else ac k)) =
          (List.range arr.length).map (fun k => Value.slice (some ⟨ab k, 0, none⟩) (arr.getD k []).length (ac k)) := by
        apply List.map_congr_left
        intro k hk
        have hk' : k < arr.length := List.mem_range.1 hk
        rw [if_neg (by omega), if_neg (by omega), getD_snoc_lt arr x [] hk']
      rw [e1]
      simp only [List.map_cons, List.map_nil, if_true, getD_snoc_eq]
      exact hown
    blk := fun k hk => by
      rw [List.length_append, List.length_singleton] at hk
      by_cases hkk : k = arr.length
      · subst hkk
        simp only [if_true, getD_snoc_eq]
        exact ⟨t, hx.grown hg gxr⟩
      · have hk' : k < arr.length := by omega
        rw [if_neg hkk, getD_snoc_lt arr x [] hk']
        obtain ⟨t', ht'⟩ := h.blk k hk'
        exact ⟨t', (ht'.below hb ht'.lt).grown hg (abne k hk').2.2⟩
    ta := fun k hk => by
      rw [List.length_append, List.length_singleton] at hk
      by_cases hkk : k = arr.length
      · subst hkk; simp
      · have hk' : k < arr.length := by omega
        simp [hkk, (abne k hk').1, (abne k hk').2.1, h.ta k hk']
    to := fun g hg0 => by
      simp [Value.ownBlock] at hg0
      subst hg0
      simp [Ne.symm hgne]
    ba := fun k hk => by
      rw [List.length_append, List.length_singleton] at hk
      by_cases hkk : k = arr.length
      · subst hkk; simp; omega
      · rw [if_neg hkk]; exact h.ba k (by omega) }

/-- the head of each round of 'copied' -/
structure CopyAt (w : World) (arr : List (List Int)) (ctx : List Int) (b2 b3 cb cc : Nat) (k : Nat) (τ : Nat → Nat) (ab ac : Nat → Nat) (v : Value) (wr : World) : Prop where
  le : k ≤ arr.length
  grid : GridOwn w.heap.size τ (arr.take k) ab ac v wr
  out : Blk wr b3 [v, .slice (some ⟨cb, 0, none⟩) ctx.length cc] 31
  res : Blk wr b2 [.slice none 0 0, .slice none 0 0] 31
  ctx : ∃ t, Blk wr cb (ints .u32 ctx ++ t) 42
  tc : τ cb = 3
  t2 : τ b2 = 2000
  t3 : τ b3 = 2001
  bc : w.heap.size ≤ cb
  b2 : w.heap.size ≤ b2
  b3 : w.heap.size ≤ b3
  bel : Below w.heap.size w wr

def CopyRel (w : World) (arr : List (List Int)) (ctx : List Int) (b2 b3 cb cc : Nat) (i : Value) (wr : World) : Prop :=
  ∃ k τ ab ac v, i = .int .i64 (k : Nat) ∧ CopyAt w arr ctx b2 b3 cb cc k τ ab ac v wr

def CopyPost (w : World) (arr : List (List Int)) (ctx : List Int) (e : Ending) (w' : World) : Prop :=
  ∃ v τ ab ac cb cc, e = .returned (.agg #[v, .slice (some ⟨cb, 0, none⟩) ctx.length cc]) ∧ GridOwn w.heap.size τ arr ab ac v w' ∧ (∃ t, Blk w' cb (ints .u32 ctx ++ t) 42) ∧ τ cb = 3 ∧ w.heap.size ≤ cb ∧ Below w.heap.size w w'

set_option maxRecDepth 100000 in
set_option maxHeartbeats 1000000 in
theorem copied_any (qa ca : Option Addr) (cq cc0 : Nat) (arr : List (List Int)) (ctx : List Int) (w : World) (hg : GridAt w qa arr) (hctx : NumsAt w ca ctx)
    (hn : arr.length ≤ 8) (h1 : ∀ a ∈ arr, 0 < a.length ∧ a.length ≤ 65536) (hc : 0 < ctx.length ∧ ctx.length ≤ 16) :
    Calls Try.prog 52 #[.agg #[.slice qa arr.length cq, .slice ca ctx.length cc0]] w (CopyPost w arr ctx) := by
  obtain ⟨b, off, rfl, hcc⟩ := hctx
  have hbl := NumsAt.lt hcc hc.1
  have HC := Lib.hid hcc
  have HG := Lib.hid hg
  clear hcc hg
  go_enter Try.func52, Try.ntmps52
  go_wp2_with fail
  refine (clone_any b off ctx.length cc0 ctx _ rfl hc.1 (by omega) ?_).mono ?_
  · intro j hj
    have h5 := HC.out j hj
    simp [go_sem, hbl, h5]
  rintro e w1 ⟨g, cc, t, rfl, hblk, hgg, hb1⟩
  have hs1 : w.heap.size + 2 ≤ w1.heap.size := by have := hb1.size; simp at this; omega
  have hsz : w.heap.size < w1.heap.size := by omega
  have c0 : w1.cell? ⟨w.heap.size, 0, none⟩ = some (.slice qa arr.length cq) := by rw [hb1.cell (p := ⟨w.heap.size, 0, none⟩) (by simp; omega)]; simp [go_sem]
  have hres : Blk w1 (w.heap.size + 1) [.slice none 0 0, .slice none 0 0] 31 := by
    unfold Blk
    rw [hb1.block _ (by simp)]
    exact heap_new2 w _ _
  have hbw : Below w.heap.size w w1 := (((Below.refl _ _).alloc (by simp) _).alloc (by simp) _).trans (hb1.mono (by simp; omega))
  have hgl : g < w1.heap.size := hblk.lt
  have hg2 : w.heap.size + 2 ≤ g := by simpa using hgg
  have HA := Lib.hid (And.intro hblk hres)
  clear hgg hb1 hblk hres
  have start : ∀ wr, wr = w1.alloc (.cells #[.slice none 0 0, .slice (some ⟨g, 0, none⟩) ctx.length cc] 31) → CopyRel w arr ctx (w.heap.size + 1) w1.heap.size g cc (.int .i64 0) wr := by
    rintro wr rfl
    obtain ⟨hblk, hres⟩ := HA.out
    have hba : Below w1.heap.size w1 (w1.alloc (.cells #[.slice none 0 0, .slice (some ⟨g, 0, none⟩) ctx.length cc] 31)) := (Below.refl _ _).alloc (Nat.le_refl _) _
    refine ⟨0, fun x => if x = g then 3 else if x = w.heap.size + 1 then 2000 else 2001, fun _ => 0, fun _ => 0, .slice none 0 0, rfl, ⟨by omega, ⟨?_, fun k hk => by simp at hk, fun k hk => by simp at hk, fun g hg => by simp [Value.ownBlock] at hg, fun k hk => by simp at hk⟩, heap_new1 _ _, hres.below hba hres.lt, ⟨t, hblk.below hba hgl⟩, by simp, ?_, ?_, by omega, by omega, by omega, hbw.trans (hba.mono (by omega))⟩⟩
    · exact World.ownsRow_nil _ _ _ _
    · rw [if_neg (by omega)]; simp
    · rw [if_neg (by omega), if_neg (by omega)]
  have HST := Lib.hid start
  clear start
  go_wp2_with fail
  go_loopw [13] (fun i wr => CopyRel w arr ctx (w.heap.size + 1) w1.heap.size g cc i wr) (fun i _ => arr.length - (intOf i).toNat)
  case atStart => exact HST.out _ rfl
  case round =>
    obtain ⟨k, τ, ab, ac, v, rfl, CA⟩ := hrel
    by_cases hk : k < arr.length
    · obtain ⟨q, qo, a, cap, rfl, hq, b4, o4, rfl, hn4⟩ := (HG.out.below CA.bel) k hk
      have hx := h1 (arr.getD k []) (by rw [List.getD_eq_getElem?_getD, List.getElem?_eq_getElem hk]; exact List.getElem_mem hk)
      have hk' := nat_cast_lt hk
      have c3 : wr.cell? ⟨w1.heap.size, 0, none⟩ = some v := CA.out.cell 0
      have z3 := CA.out.frozen 0
      have hol := CA.out.lt
      obtain ⟨va, vc, rfl⟩ : ∃ va vc, v = .slice va k vc := by
        have hl : (arr.take k).length = k := by simp; omega
        have hown := CA.grid.own
        rw [hl] at hown
        rcases hown.2 with ⟨h1, h2⟩ | ⟨g, cc, cur, h1, _⟩
        · exact ⟨none, 0, by rw [h1, h2]⟩
        · exact ⟨_, cc, h1⟩
      generalize hX : arr.getD k [] = X at *
      have HX := Lib.hid hX
      have HN4 := Lib.hid hn4
      clear hX hn4
      go_wp2_with fail
      refine wp_region_grew [1] [0, 2] [(2, 0), (2, 2), (1, 1), (0, 3), (0, 4), (0, 5), (0, 6), (0, 7)] (by kernel_rfl) (by kernel_rfl) (fun c a d v w h => by cases d <;> exact h) ?_
      simp only [getPlan, List.filterMap_cons, List.filterMap_nil, List.getElem?_toArray, List.getElem?_cons_succ, List.getElem?_cons_zero, Option.map_some]
      repeat ((first | refine wpPlan_pure (fun K hK => ?_) | refine wpPlan_float (fun K hK => ?_)); go_simp; refine hK _ ?_; clear hK K)
      refine wpPlan_keep ?_
      go_wp2_with fail
      refine (clone_any b4 o4 X.length cap X _ rfl hx.1 hx.2 ?_).mono ?_
      · intro j hj; exact HN4.out j hj
      rintro e w4 ⟨gx, cx, t4, rfl, hblk4, hgx4, hb4⟩
      go_wp2_with fail
      refine ⟨grew_below (below_undrew hb4), ?_⟩
      refine wpPlan_keep ?_
      go_wp2_with fail
      have hb5 : Below wr.heap.size wr w4 := below_undrew hb4
      have hs4 := hb5.size
      have hl : (arr.take k).length = k := by simp; omega
      have hown4 : w4.ownsRow w.heap.size 29 1 (.slice va k vc) k ((List.range k).map fun j => .slice (some ⟨ab j, 0, none⟩) ((arr.take k).getD j []).length (ac j)) := by
        have h9 := CA.grid.own.kept (grownBy_of_below hb5 none) (by cases hv : (Value.slice va (arr.take k).length vc).ownBlock <;> simp_all)
        rw [hl] at h9
        exact h9
      refine ⟨grew_below (hb5.trans ((Below.refl _ _).alloc hs4 _)), ?_⟩
      refine wpPlan_sees (by kernel_rfl) ?_
      refine wpList_app1 Try.elSl rfl _ _ rfl w.heap.size (.slice va k vc) k _ rfl (hown4.alloc _) w4.heap.size [.slice (some ⟨gx, 0, none⟩) X.length cx] (0, 0) rfl (heap_new1 _ _) rfl ?_ ?_ ?_ ?_
      · simp [Value.oneCell']
      · omega
      · have := CA.bel.size; simp; omega
      intro g6 c6 w6 hown6 hg6 hat6 hlt6
      have hg5 : w4.grownBy w6 (Value.slice va k vc).ownBlock := grownBy_trans (World.grownBy_alloc _ _ _) hg6
      have hat5 : (Value.slice va k vc).ownBlock = some g6 ∨ w4.heap.size ≤ g6 := by
        rcases hat6 with h | h
        · exact .inl h
        · right; rw [h]; simp
      have hB := CA.bel.size
      have vto : ∀ x, (Value.slice va k vc).ownBlock = some x → τ x = 4 := CA.grid.to
      have vlt : ∀ x, (Value.slice va k vc).ownBlock = some x → x < wr.heap.size := fun x hx => (CA.grid.own.lt x hx).2
      have P := CA.grid.push X hB hb5 hblk4 (by simpa using hgx4) (by rw [hl]; exact hown6) hg5 hat5
      rw [hl] at P
      have HP := Lib.hid P
      have fr : ∀ y t, y < wr.heap.size → τ y = t → t ≠ 4 → y ≠ gx ∧ y ≠ g6 ∧ w6.heap[y]? = wr.heap[y]? := by
        intro y t hy ht hne
        have hne2 : some y ≠ (Value.slice va k vc).ownBlock := fun e => hne (by rw [← ht]; exact vto y e.symm)
        have hgx5 : wr.heap.size ≤ gx := by simpa using hgx4
        refine ⟨by omega, fun e => ?_, ?_⟩
        · rcases hat5 with h | h
          · exact hne2 (by rw [h, e])
          · omega
        · rw [hg5.block y (by omega) hne2, hb5.block y hy]
      have f3 := fr w1.heap.size 2001 hol CA.t3 (by omega)
      have c6' : w6.cell? ⟨w1.heap.size, 0, none⟩ = some (.slice va k vc) := by rw [World.cell?_of_block f3.2.2]; exact c3
      have z6 : w6.frozen? ⟨w1.heap.size, 0, none⟩ = false := by rw [World.frozen?_of_block f3.2.2]; exact z3
      have f2 := fr (w.heap.size + 1) 2000 CA.res.lt CA.t2 (by omega)
      have fc := fr g 3 (by obtain ⟨t, ht⟩ := CA.ctx; exact ht.lt) CA.tc (by omega)
      have rel : CopyRel w arr ctx (w.heap.size + 1) w1.heap.size g cc (.int .i64 ((k : Int) + 1)) (w6.setCell ⟨w1.heap.size, 0, none⟩ (.slice (some ⟨g6, 0, none⟩) (k + 1) c6)) := by
        have htk : arr.take (k + 1) = arr.take k ++ [X] := by
          rw [← HX.out, List.take_succ_eq_append_getElem hk, List.getD_eq_getElem?_getD, List.getElem?_eq_getElem hk]; rfl
        have hP2 := P.foreign (by simp; omega) (y := w1.heap.size) (by simp [f3.1, f3.2.1, CA.t3]) 0 (.slice (some ⟨g6, 0, none⟩) (k + 1) c6)
        have hne : ∀ y, y ≠ w1.heap.size → (w6.setCell ⟨w1.heap.size, 0, none⟩ (.slice (some ⟨g6, 0, none⟩) (k + 1) c6)).heap[y]? = w6.heap[y]? := fun y hy => Below.heap_setCell _ _ _ _ hy
        refine ⟨k + 1, _, _, _, _, by simp, ⟨by omega, by rw [htk]; exact hP2, ?_, ?_, ?_, by simp [fc.1, fc.2.1, CA.tc], by simp [f2.1, f2.2.1, CA.t2], by simp [f3.1, f3.2.1, CA.t3], CA.bc, CA.b2, CA.b3, ?_⟩⟩
        · have o6 : Blk w6 w1.heap.size [.slice va k vc, .slice (some ⟨g, 0, none⟩) ctx.length cc] 31 := by unfold Blk; rw [f3.2.2]; exact CA.out
          exact o6.set 0 _
        · unfold Blk; rw [hne _ (by omega), f2.2.2]; exact CA.res
        · obtain ⟨t, ht⟩ := CA.ctx
          exact ⟨t, by unfold Blk; rw [hne _ (by omega), fc.2.2]; exact ht⟩
        · exact ((CA.bel.trans (hb5.mono hB)).trans (below_grown hg5 (by omega) (fun x hx => (CA.grid.own.lt x hx).1))).setCell CA.b3 _
      have HREL := Lib.hid rel
      clear fr P hown6 hg6 hat6 hown4 hgx4 hb4 f3 f2 fc c3 z3 hq rel
      go_wp2
      refine wpPlan_tail (by kernel_rfl) ?_
      simp only [List.map_cons, List.map_nil]
      go_wp2
      go_roundw
      case rel => exact HREL.out
      case measure => simp [intOf]; omega
    · have hkk : k = arr.length := by have := CA.le; omega
      subst hkk
      obtain ⟨va, vc, rfl⟩ : ∃ va vc, v = .slice va arr.length vc := by
        have hown := CA.grid.own
        rw [List.take_length] at hown
        rcases hown.2 with ⟨h1, h2⟩ | ⟨g, cc, cur, h1, _⟩
        · exact ⟨none, 0, by rw [h1, h2]⟩
        · exact ⟨_, cc, h1⟩
      have c0 : wr.cell? ⟨w1.heap.size, 0, none⟩ = some (.slice va arr.length vc) := CA.out.cell 0
      have c1 : wr.cell? ⟨w1.heap.size, 0 + 1, none⟩ = some (.slice (some ⟨g, 0, none⟩) ctx.length cc) := CA.out.cell 1
      have y0 : wr.cell? ⟨w.heap.size + 1, 0, none⟩ = some (.slice none 0 0) := CA.res.cell 0
      have y1 : wr.cell? ⟨w.heap.size + 1, 0 + 1, none⟩ = some (.slice none 0 0) := CA.res.cell 1
      have z0 := CA.res.frozen 0
      have z1 := CA.res.frozen (0 + 1)
      go_wp2
      refine bodyPost_ret (v := .agg #[.slice va arr.length vc, .slice (some ⟨g, 0, none⟩) ctx.length cc]) ?_ rfl ?_
      · have e0 := (CA.res.set 0 (.slice va arr.length vc)).set 1 (.slice (some ⟨g, 0, none⟩) ctx.length cc)
        have x0 := e0.cell 0
        have x1 := e0.cell 1
        simp only [List.set_cons_zero, List.set_cons_succ, List.getElem?_cons_zero, List.getElem?_cons_succ] at x0 x1
        simp [results, Try.results52, go_sem, x0, x1]
      · have hgr := CA.grid
        rw [List.take_length] at hgr
        have g1 := (hgr.foreign (by omega) (y := w.heap.size + 1) (by rw [CA.t2]; omega) 0 (.slice va arr.length vc)).foreign (by omega) (y := w.heap.size + 1) (by rw [CA.t2]; omega) 1 (.slice (some ⟨g, 0, none⟩) ctx.length cc)
        obtain ⟨t9, ht9⟩ := CA.ctx
        have hgn : g ≠ w.heap.size + 1 := by omega
        exact ⟨_, τ, ab, ac, g, cc, rfl, g1, ⟨t9, (ht9.other hgn _).other hgn _⟩, CA.tc, CA.bc, (CA.bel.setCell CA.b2 _).setCell CA.b2 _⟩

end Go.Proofs.Ytefdnjhhaejgbaa

namespace Go.Proofs.Ytefdnjhhaejgbaa
open Go.RowKit

/-- a tree of orders -/
inductive PT where
  | fin
  | none
  | alt (j : Nat) (r more : PT)

def PT.heads : PT → List Nat
  | .alt j _ more => j :: more.heads
  | _ => []
def PT.node : PT → Bool
  | .none => false
  | _ => true
def PT.depth : PT → Nat
  | .alt _ r more => max (r.depth + 1) more.depth
  | _ => 0

section
variable {P : Program} {ops : Array Oper} {Q : Exit → Act → World → Prop} {md : Region.Mode} {S : World → Prop} {fl pu : List Nat}

def wpTree (P : Program) (ops : Array Oper) (Q : Exit → Act → World → Prop) (S : World → Prop) : PT → Act → World → Prop
  | .fin, a, w => Q .normal a w
  | .none, _, _ => True
  | .alt j r more, a, w => (match ops[j]? with | some o => wpList P ops (Exit.then (fun a' w' => S w' ∧ wpTree P ops Q S r a' w') Q) [o] a w | none => False) ∧ wpTree P ops Q S more a w

def treeB (md : Region.Mode) (ops : Array Oper) : PT → Array Bool → Bool
  | .alt j r more, listed => r.node && decide (Region.ready md ops (listed.setIfInBounds j true) = r.heads) && treeB md ops r (listed.setIfInBounds j true) && treeB md ops more listed
  | _, _ => true

theorem tree_alt {listed : Array Bool} {a : Act} {w : World} {i : Nat} : ∀ (T : PT), i ∈ T.heads → treeB md ops T listed = true → wpTree P ops Q S T a w →
    ∃ r o, r.node = true ∧ Region.ready md ops (listed.setIfInBounds i true) = r.heads ∧ treeB md ops r (listed.setIfInBounds i true) = true ∧ r.depth < T.depth ∧ ops[i]? = some o ∧
      wpList P ops (Exit.then (fun a' w' => S w' ∧ wpTree P ops Q S r a' w') Q) [o] a w
  | .fin, h, _, _ => by cases h
  | .none, h, _, _ => by cases h
  | .alt j r more, h, hB, hw => by
    simp only [treeB, Bool.and_eq_true, decide_eq_true_eq] at hB
    obtain ⟨⟨⟨h1, h2⟩, h3⟩, h4⟩ := hB
    obtain ⟨k1, k2⟩ := hw
    simp only [PT.heads, List.mem_cons] at h
    rcases h with rfl | h
    · cases ho : ops[i]? with
      | none => rw [ho] at k1; exact k1.elim
      | some o => rw [ho] at k1; exact ⟨r, o, h1, h2, h3, by simp [PT.depth]; omega, rfl, k1⟩
    · obtain ⟨r', o, a1, a2, a3, a4, a5, a6⟩ := tree_alt more h h4 k2
      exact ⟨r', o, a1, a2, a3, by simp [PT.depth]; omega, a5, a6⟩

theorem wpMix_of_tree : ∀ (n : Nat) (T : PT) (listed : Array Bool) (a : Act) (w : World), T.node = true → T.depth ≤ n → Region.ready md ops listed = T.heads → treeB md ops T listed = true → wpTree P ops Q S T a w →
    wpMix P md ops Q S fl pu n listed a w
  | 0, T, listed, a, w, hn, hd, hr, hB, hw => by
    cases T with
    | fin => exact ⟨hr, hw⟩
    | none => cases hn
    | alt j r more => simp [PT.depth] at hd
  | n + 1, T, listed, a, w, hn, hd, hr, hB, hw => by
    refine ⟨fun h => ?_, fun i hi => ?_⟩
    · cases T with
      | fin => exact hw
      | none => cases hn
      | alt j r more => rw [hr] at h; cases h
    · rw [hr] at hi
      obtain ⟨r, o, a1, a2, a3, a4, a5, a6⟩ := tree_alt T hi hB hw
      refine wpOp_of_one a5 (wpList_one_mono (fun a' w' hx => ⟨fun _ => .inr hx.1, wpMix_of_tree n r _ a' w' a1 (by omega) a2 a3 hx.2⟩) (fun e a' w' hne hx => ?_) a6)
      cases e <;> first | exact absurd rfl hne | exact hx

/-- the floats ahead of the fork -/
def preB (md : Region.Mode) (ops : Array Oper) (fl pu : List Nat) : List (Nat × Nat) → Array Bool → Bool
  | [], _ => true
  | (0, _) :: _, _ => false
  | (1, i) :: rest, listed => (Region.ready md ops listed).contains i && Region.free md ops listed i && fl.contains i && preB md ops fl pu rest (listed.setIfInBounds i true)
  | (_ + 2, i) :: rest, listed => (Region.ready md ops listed).contains i && Region.free md ops listed i && pu.contains i && preB md ops fl pu rest (listed.setIfInBounds i true)
def behindAll : List (Nat × Nat) → Array Bool → Array Bool
  | [], listed => listed
  | (_, i) :: rest, listed => behindAll rest (listed.setIfInBounds i true)

theorem wpMix_prefix {C : Act → World → Prop} {n : Nat} (hsel : Region.noSelect ops = true) (hQ : ∀ c (a : Act) d v w, Q (.panic c) (a.put d v) w → Q (.panic c) a w) : ∀ (l : List (Nat × Nat)) (listed : Array Bool) (a : Act) (w : World),
    (∀ j ∈ l, j.2 < ops.size) → Closed md ops listed → preB md ops fl pu l listed = true → S w →
    (∀ a', C a' w → wpMix P md ops Q S fl pu n (behindAll l listed) a' w) →
    wpPlan P md ops (Exit.then C Q) S fl (getPlan ops l) a w → wpMix P md ops Q S fl pu (l.length + n) listed a w
  | [], _, _, _, _, _, _, _, hC, h => by unfold wpPlan at h; have := hC _ h; simpa [behindAll] using this
  | (0, i) :: l, _, _, _, _, _, hB, _, _, _ => by simp [preB] at hB
  | (1, i) :: l, listed, a, w, hlt, hc, hB, hS, hC, h => by
    simp only [preB, Bool.and_eq_true] at hB
    obtain ⟨⟨⟨hr, hf⟩, hfl⟩, hB'⟩ := hB
    have hi : ops[i]? = some ops[i]! := by
      have := hlt (1, i) (by simp)
      simp at this
      simp [this]
    have hg : getPlan ops ((1, i) :: l) = (1, i, ops[i]!) :: getPlan ops l := by simp only [getPlan, List.filterMap_cons, hi]; rfl
    rw [hg] at h
    have hr' : i ∈ Region.ready md ops listed := by simpa using hr
    have next : ∀ a', wpPlan P md ops (Exit.then C Q) S fl (getPlan ops l) a' w → wpMix P md ops Q S fl pu (l.length + n) (listed.setIfInBounds i true) a' w := fun a' ha' =>
      wpMix_prefix hsel hQ l _ a' w (fun k hk => hlt k (by simp [hk])) (hc.set hr') hB' hS hC ha'
    have e : ((1, i) :: l).length + n = l.length + n + 1 := by simp; omega
    rw [e]
    unfold wpPlan at h
    split at h
    · rename_i hw
      obtain ⟨v, h1, h2⟩ := h
      exact wpMix_first hi (by simpa using hfl) (Region.noSelect_spec hsel) (fun c a w => hQ c a _ v w) _ listed a w hc (Region.free_spec hi hf) hr' (.inl ⟨hw, h1⟩) hS (next _ h2)
    · rename_i hw
      exact wpMix_first hi (by simpa using hfl) (Region.noSelect_spec hsel) (fun c a w => hQ c a _ undef w) _ listed a w hc (Region.free_spec hi hf) hr' (.inr ⟨by simpa using hw, rfl⟩) hS (next _ h)
  | (k + 2, i) :: l, listed, a, w, hlt, hc, hB, hS, hC, h => by
    simp only [preB, Bool.and_eq_true] at hB
    obtain ⟨⟨⟨hr, hf⟩, hpu⟩, hB'⟩ := hB
    have hi : ops[i]? = some ops[i]! := by
      have := hlt (k + 2, i) (by simp)
      simp at this
      simp [this]
    have hg : getPlan ops ((k + 2, i) :: l) = (k + 2, i, ops[i]!) :: getPlan ops l := by simp only [getPlan, List.filterMap_cons, hi]; rfl
    rw [hg] at h
    have hr' : i ∈ Region.ready md ops listed := by simpa using hr
    have next : ∀ a', wpPlan P md ops (Exit.then C Q) S fl (getPlan ops l) a' w → wpMix P md ops Q S fl pu (l.length + n) (listed.setIfInBounds i true) a' w := fun a' ha' =>
      wpMix_prefix hsel hQ l _ a' w (fun k hk => hlt k (by simp [hk])) (hc.set hr') hB' hS hC ha'
    have e : ((k + 2, i) :: l).length + n = l.length + n + 1 := by simp; omega
    rw [e]
    unfold wpPlan at h
    split at h
    · rename_i hw
      obtain ⟨v, h1, h2⟩ := h
      exact wpMix_first_pure hi hpu (Region.noSelect_spec hsel) (fun c a w => hQ c a _ v w) _ listed a w (Region.free_spec hi hf) hr' (.inl ⟨hw, fun w _ => h1 w⟩) (next _ h2)
    · rename_i hw
      exact wpMix_first_pure hi hpu (Region.noSelect_spec hsel) (fun c a w => hQ c a _ undef w) _ listed a w (Region.free_spec hi hf) hr' (.inr ⟨by simpa using hw, rfl⟩) (next _ h)

def forkB (md : Region.Mode) (ops : Array Oper) (fl pu : List Nat) (l : List (Nat × Nat)) (T : PT) : Bool :=
  Region.noSelect ops && decide (l.length + T.depth = ops.size) && l.all (fun i => decide (i.2 < ops.size)) && preB md ops fl pu l (Array.replicate ops.size false) &&
    T.node && decide (Region.ready md ops (behindAll l (Array.replicate ops.size false)) = T.heads) && treeB md ops T (behindAll l (Array.replicate ops.size false))

/-- **THE REGION WITH A FORK** -/
theorem wp_region_fork {id : Nat} {l : List Oper} {a : Act} {w : World} (fl pu : List Nat) (pl : List (Nat × Nat)) (T : PT) (hm : P.follows .mixedOrders = true) (hB : forkB .any l.toArray fl pu pl T = true)
    (hQ : ∀ c (a : Act) d v w, Q (.panic c) (a.put d v) w → Q (.panic c) a w)
    (h : wpPlan P .any l.toArray (Exit.then (wpTree P l.toArray Q (Grew w) T) Q) (Grew w) fl (getPlan l.toArray pl) a w.drew) : (Code.region id l.toArray true).wp P Q a w := by
  simp only [forkB, Bool.and_eq_true, decide_eq_true_eq] at hB
  obtain ⟨⟨⟨⟨⟨⟨hsel, hlen⟩, hpl⟩, hpre⟩, hnode⟩, hready⟩, htree⟩ := hB
  have hpl' : ∀ j ∈ pl, j.2 < l.toArray.size := fun j hj => of_decide_eq_true (List.all_eq_true.1 hpl j hj)
  refine wp_region_any hm (wpAny_of_mix (S := Grew w) (fl := fl) (pu := pu) _ _ _ _ ?_)
  have := wpMix_prefix (P := P) (md := .any) (Q := Q) (S := Grew w) (fl := fl) (pu := pu) (n := T.depth) hsel hQ pl _ a w.drew hpl' (closed_none _) hpre (grew_below (Below.refl _ _).drew)
    (fun a' hC => wpMix_of_tree _ T _ a' _ hnode (Nat.le_refl _) hready htree hC) h
  rw [hlen] at this
  exact this
end

end Go.Proofs.Ytefdnjhhaejgbaa

namespace Go.Proofs.Ytefdnjhhaejgbaa
open Go.RowKit
set_option linter.unusedVariables false

theorem madeCells_one (z : Value) (n : Nat) : madeCells #[z] n = (List.replicate n z).toArray := by
  apply Array.ext
  · simp [madeCells]
  · intro i h1 h2
    simp [madeCells] at h1
    simp [madeCells]
    have : i % 1 = 0 := Nat.mod_one i
    simp [this]

theorem run_make_u32 (n : Nat) (hn : n ≤ 65536) (w : World) :
    (Instr.makeSlice 29 (.int .i64 (n : Int)) (.int .i64 (n : Int))).run Try.prog w = .ok (.slice (some ⟨w.heap.size, 0, none⟩) n n) (w.alloc (.cells (ints .u32 (List.replicate n 0)).toArray 42)) := by
  obtain ⟨i, hi, hz, h2, h3⟩ := info_parts Try.elU32.info
  rw [run_make w _ _ i (.int .u32 0) Try.underlying29 hi hz .i64 .i64 n n (by omega) (by omega) (by rw [h3]; omega) (by omega)]
  simp only [Int.toNat_natCast, h2, Nat.mul_one, ints, List.map_replicate]
  have : (Value.int .u32 0).cells = #[.int .u32 0] := rfl
  rw [this, madeCells_one]

/-- the state before the first instruction -/
def MC.init (c : MC) (arr : List (List Int)) (ctx : List Int) : PS := ⟨List.replicate c.regs 0, List.replicate c.spills 0, arr, ctx, [], [], 0, 0⟩

/-- the run of code from a state on, with its result -/
def RunsTo (c : MC) (s0 : PS) (r : Except Int PS) : Prop :=
  ∃ (Inv : PS → Prop) (μ : PS → Nat) (fin : PS → Except Int PS), (∀ s, Inv s → Fine c s) ∧
    (∀ s, Inv s → s.pc < c.cd.length → chkI c.regs c.spills c.ars.length (c.cd.getD s.pc default) = 0 ∧ (0 ≤ (c.cd.getD s.pc default).arg ∧ (c.cd.getD s.pc default).arg < 4294967296) ∧
      ((c.cd.getD s.pc default).op = 30 → s.loops ≠ []) ∧ ((c.cd.getD s.pc default).op = 29 → s.loops.length < 16)) ∧
    (∀ s s', Inv s → s.pc < c.cd.length → mstep c s = .ok s' → Inv s' ∧ μ s' < μ s) ∧
    (∀ s, Inv s → fin s = if s.pc < c.cd.length then (mstep c s).bind fin else .ok s) ∧ Inv s0 ∧ fin s0 = r ∧ (∀ s, r = .ok s → Inv s)

/-- what a run hands back -/
def RunVal (w : World) (s : PS) (v : Value) : Prop :=
  ∃ qa cq ca cc oa oc, v = .agg #[.slice qa s.arr.length cq, .slice ca s.ctx.length cc, .slice oa s.out.length oc, .int .i64 s.steps] ∧ GridAt w qa s.arr ∧ NumsAt w ca s.ctx ∧
    RowB w.heap.size w 1 oa s.out.length (fun j _ => .int .u8 (s.out.getD j 0))

def zeroRunV : Value := .agg #[.slice none 0 0, .slice none 0 0, .slice none 0 0, .int .i64 0]

def ExecPost (w : World) (r : Except Int PS) (e : Ending) (w' : World) : Prop :=
  Below w.heap.size w w' ∧ match r with
  | .ok s => ∃ v, e = .returned (.tuple #[v, .int .i64 0]) ∧ ∀ w2 : World, (∀ k, w.heap.size ≤ k → w2.heap[k]? = w'.heap[k]?) → w2.heap.size = w'.heap.size → RunVal w2 s v
  | .error n => e = .returned (.tuple #[zeroRunV, .int .i64 n])

/-- the parts of the machine, made in whatever order -/
structure Parts (B : Nat) (c : MC) (arr : List (List Int)) (ctx : List Int) (rb sb cb cc : Nat) (va : Option Addr) (vc : Nat) (w : World) : Prop where
  grid : ∃ lo hi τ ab ac, B ≤ lo ∧ GridOwn lo τ arr ab ac (.slice va arr.length vc) w ∧ τ cb = 3 ∧ lo ≤ cb ∧ cb < hi ∧ (∀ k, k < arr.length → ab k < hi) ∧ (∀ x, (Value.slice va arr.length vc).ownBlock = some x → x < hi) ∧ hi ≤ w.heap.size ∧ (rb < lo ∨ hi ≤ rb) ∧ (sb < lo ∨ hi ≤ sb)
  ctx : ∃ t, Blk w cb (ints .u32 ctx ++ t) 42
  reg : Blk w rb (ints .u32 (List.replicate c.regs 0)) 42
  spl : Blk w sb (ints .u32 (List.replicate c.spills 0)) 42
  ne : rb ≠ sb
  br : B ≤ rb
  bs : B ≤ sb
  bB : B ≤ w.heap.size

theorem own_cells {w : World} {base : Nat} {e : TypeId} {va : Option Addr} {n vc : Nat} {xs : List Value} (h : w.ownsRow base e 1 (.slice va n vc) n xs) (hx : xs.length = n) {k : Nat} (hk : k < n) :
    ∃ g, va = some ⟨g, 0, none⟩ ∧ (Value.slice va n vc).ownBlock = some g ∧ w.cell? ⟨g, 0 + k, none⟩ = xs[k]? ∧ g < w.heap.size := by
  rcases h.2 with ⟨h1, h2⟩ | ⟨g', cc', cur, hv, hb, hgg, hle, hmx, hcs, htk⟩
  · omega
  · simp only [Value.slice.injEq] at hv
    obtain ⟨rfl, _, rfl⟩ := hv
    refine ⟨g', rfl, rfl, ?_, (Array.getElem?_eq_some_iff.1 hgg).1⟩
    have : cur.toList.take (n * 1) = xs := htk
    rw [← this]
    simp [World.cell?, hgg]
    rw [List.getElem?_take_of_lt (by omega)]
    simp

/-- the machine behind its making -/
theorem Parts.rep {B B0 : Nat} (hBB : B0 ≤ B) {c : MC} {arr : List (List Int)} {ctx : List Int} {rb sb cb cc : Nat} {va : Option Addr} {vc : Nat} {w : World} (h : Parts B c arr ctx rb sb cb cc va vc w)
    {arsA codeA ptA : Option Addr} {arsC codeC ptC : Nat} (h1 : RowB B0 w 5 codeA c.cd.length fun i j => (c.cd.getD i default).cell j) (h2 : RowB B0 w 1 ptA c.pt.length fun i _ => .int .i64 (c.pt.getD i 0 : Nat))
    (h3 : RowB B0 w 2 arsA c.ars.length fun i j => (c.ars.getD i default).cell j) :
    ∃ L τ w', w' = w.alloc (.cells (mcells L c (c.init arr ctx) (.slice none 0 0) (.slice none 0 0)).toArray 101) ∧ L.mb = w.heap.size ∧ L.rb = rb ∧ L.sb = sb ∧ L.cb = cb ∧ L.ccap = cc ∧ L.arsA = arsA ∧ L.arsC = arsC ∧ L.codeA = codeA ∧ L.codeC = codeC ∧ L.ptA = ptA ∧ L.ptC = ptC ∧
      L.arrA = va ∧ L.arrC = vc ∧ (∀ x, x < B → τ x = 1000) ∧ Rep B0 L c (c.init arr ctx) τ (.slice none 0 0) (.slice none 0 0) w' := by
  obtain ⟨lo, hi, τ, ab, ac, hlo, hg, tcb, cb1, cb2, hab, hown, hhi, hrb, hsb⟩ := h.grid
  obtain ⟨tc, hctx⟩ := h.ctx
  have hne := h.ne
  have rl := h.reg.lt
  have sl := h.spl.lt
  refine ⟨⟨w.heap.size, rb, sb, cb, ab, ac, cc, arsA, arsC, codeA, codeC, ptA, ptC, va, vc⟩, fun x => if x = w.heap.size then 0 else if x = rb then 1 else if x = sb then 2 else if lo ≤ x ∧ x < hi then τ x else 1000, _, rfl, rfl, rfl, rfl, rfl, rfl, rfl, rfl, rfl, rfl, rfl, rfl, rfl, rfl, ?_, ?_⟩
  · intro x hx
    have h5 := h.br
    have h6 := h.bs
    have h7 := h.bB
    show (if x = w.heap.size then 0 else if x = rb then 1 else if x = sb then 2 else if lo ≤ x ∧ x < hi then τ x else 1000) = _
    rw [if_neg (by omega), if_neg (by omega), if_neg (by omega), if_neg (by omega)]
  have hb : Below w.heap.size w (w.alloc (.cells (mcells ⟨w.heap.size, rb, sb, cb, ab, ac, cc, arsA, arsC, codeA, codeC, ptA, ptC, va, vc⟩ c (c.init arr ctx) (.slice none 0 0) (.slice none 0 0)).toArray 101)) := (Below.refl _ _).alloc (Nat.le_refl _) _
  have hbB := hb.mono (Nat.le_trans hBB h.bB)
  have old : ∀ x, lo ≤ x → x < hi → x ≠ w.heap.size ∧ x ≠ rb ∧ x ≠ sb := fun x h4 h5 => ⟨by omega, by rcases hrb with h | h <;> omega, by rcases hsb with h | h <;> omega⟩
  exact {
    ro := ⟨h1.below hbB, h2.below hbB, h3.below hbB⟩
    hB := by have := h.bB; simp; omega
    mac := heap_new1 _ _
    reg := h.reg.below hb rl
    spl := h.spl.below hb sl
    ctx := ⟨tc, hctx.below hb hctx.lt⟩
    arr := fun k hk => by
      obtain ⟨t, ht⟩ := hg.blk k hk
      exact ⟨t, ht.below hb ht.lt⟩
    outer := fun k hk => by
      obtain ⟨g, hva, hgo, hc, hgl⟩ := own_cells hg.own (by simp) hk
      have hr := old g (hg.own.lt g hgo).1 (hown g hgo)
      refine ⟨g, 0, hva, ?_, Nat.lt_of_lt_of_le hgl hb.size, ?_⟩
      · show (if _ then _ else if _ then _ else if _ then _ else if _ then _ else _) = _
        rw [if_neg hr.1, if_neg hr.2.1, if_neg hr.2.2, if_pos ⟨(hg.own.lt g hgo).1, hown g hgo⟩]; exact hg.to g hgo
      · rw [hb.cell (p := ⟨g, 0 + k, none⟩) hgl, hc]
        have hk' : k < arr.length := hk
        simp [hk', MC.init]
    lown := World.ownsRow_nil _ _ _ _
    oown := World.ownsRow_nil _ _ _ _
    tm := if_pos rfl
    tr := by show (if rb = w.heap.size then 0 else if rb = rb then 1 else if rb = sb then 2 else if lo ≤ rb ∧ rb < hi then τ rb else 1000) = _; rw [if_neg (by omega), if_pos rfl]
    ts := by show (if sb = w.heap.size then 0 else if sb = rb then 1 else if sb = sb then 2 else if lo ≤ sb ∧ sb < hi then τ sb else 1000) = _; rw [if_neg (by omega), if_neg (Ne.symm hne), if_pos rfl]
    tc := by have hr := old cb cb1 cb2; show (if _ then _ else if _ then _ else if _ then _ else if _ then _ else _) = _; rw [if_neg hr.1, if_neg hr.2.1, if_neg hr.2.2, if_pos ⟨cb1, cb2⟩]; exact tcb
    ta := fun k hk => by have hr := old (ab k) (hg.ba k hk) (hab k hk); show (if _ then _ else if _ then _ else if _ then _ else if _ then _ else _) = _; rw [if_neg hr.1, if_neg hr.2.1, if_neg hr.2.2, if_pos ⟨hg.ba k hk, hab k hk⟩]; exact hg.ta k hk
    tl := fun g hg => by simp [Value.ownBlock] at hg
    to := fun g hg => by simp [Value.ownBlock] at hg
    bm := Nat.le_trans hBB h.bB
    br := Nat.le_trans hBB h.br
    bs := Nat.le_trans hBB h.bs
    bc := by show B0 ≤ cb; omega
    ba := fun k hk => by have := hg.ba k hk; show B0 ≤ ab k; omega }

theorem own_fits {w : World} {B : Nat} {va : Option Addr} {n vc : Nat} {xs : List Value} {e : TypeId} (h : w.ownsRow B e 1 (.slice va n vc) n xs) (hx : xs.length = n) : RowB w.heap.size w 1 va n (fun j _ => xs.getD j undef) := by
  intro j hj
  obtain ⟨g, h1, _, h3, h4⟩ := own_cells h hx hj
  refine ⟨g, 0, h1, h4, fun i hi => ?_⟩
  have : i = 0 := by omega
  subst this
  simp only [Nat.mul_one, Nat.add_zero]
  rw [h3]
  simp [List.getD_eq_getElem?_getD, hx, hj]

theorem Rep.val {B : Nat} {L : Lay} {c : MC} {s : PS} {τ : Nat → Nat} {lv ov : Value} {w : World} (h : Rep B L c s τ lv ov w) :
    RunVal w s (.agg #[.slice L.arrA s.arr.length L.arrC, .slice (some ⟨L.cb, 0, none⟩) s.ctx.length L.ccap, ov, .int .i64 s.steps]) := by
  obtain ⟨oa, oc, rfl⟩ : ∃ oa oc, ov = .slice oa s.out.length oc := by
    rcases h.oown.2 with ⟨h1, h2⟩ | ⟨g, cc, cur, h1, _⟩
    · exact ⟨none, 0, by rw [h1, h2]⟩
    · exact ⟨_, cc, h1⟩
  refine ⟨_, _, _, _, oa, oc, rfl, ?_, ?_, ?_⟩
  · intro k hk
    obtain ⟨q, qo, h1, h2, h3, h4⟩ := h.outer k hk
    refine ⟨q, qo, _, _, h1, h4, L.ab k, 0, rfl, fun j hj => ?_⟩
    obtain ⟨t, ht⟩ := h.arr k hk
    rw [Nat.zero_add, ht.cell, ints_get_app hj]
  · refine ⟨L.cb, 0, rfl, fun j hj => ?_⟩
    obtain ⟨t, ht⟩ := h.ctx
    rw [Nat.zero_add, ht.cell, ints_get_app hj]
  · intro j hj
    obtain ⟨b, off, h1, h2, h3⟩ := own_fits h.oown (by simp [ints]) j hj
    refine ⟨b, off, h1, h2, fun i hi => ?_⟩
    rw [h3 i hi]
    simp [ints, List.getD_eq_getElem?_getD, hj]


/-- the value reads as it did where all blocks that are not foreign are as they were -/
theorem Rep.val_other {B : Nat} {L : Lay} {c : MC} {s : PS} {τ : Nat → Nat} {lv ov : Value} {w w2 : World} (h : Rep B L c s τ lv ov w) {B1 : Nat} (ht : ∀ x, x < B1 → 1000 ≤ τ x) (hn : s.arr.length ≤ 900) (hw : ∀ k, B1 ≤ k → w2.heap[k]? = w.heap[k]?) (hs : w2.heap.size = w.heap.size) :
    RunVal w2 s (.agg #[.slice L.arrA s.arr.length L.arrC, .slice (some ⟨L.cb, 0, none⟩) s.ctx.length L.ccap, ov, .int .i64 s.steps]) := by
  have same : ∀ x t, τ x = t → t < 1000 → w2.heap[x]? = w.heap[x]? := fun x t hx h1 => hw x (by
    by_cases hlt : x < B1
    · have := ht x hlt; omega
    · omega)
  obtain ⟨oa, oc, rfl⟩ : ∃ oa oc, ov = .slice oa s.out.length oc := by
    rcases h.oown.2 with ⟨h1, h2⟩ | ⟨g, cc, cur, h1, _⟩
    · exact ⟨none, 0, by rw [h1, h2]⟩
    · exact ⟨_, cc, h1⟩
  refine ⟨_, _, _, _, oa, oc, rfl, ?_, ?_, ?_⟩
  · intro k hk
    obtain ⟨q, qo, h1, h2, h3, h4⟩ := h.outer k hk
    refine ⟨q, qo, _, _, h1, by rw [World.cell?_of_block (same q 4 h2 (by omega))]; exact h4, L.ab k, 0, rfl, fun j hj => ?_⟩
    obtain ⟨t, ht⟩ := h.arr k hk
    rw [Nat.zero_add, World.cell?_of_block (same _ _ (h.ta k hk) (by omega)), ht.cell, ints_get_app hj]
  · refine ⟨L.cb, 0, rfl, fun j hj => ?_⟩
    obtain ⟨t, ht⟩ := h.ctx
    rw [Nat.zero_add, World.cell?_of_block (same _ _ h.tc (by omega)), ht.cell, ints_get_app hj]
  · intro j hj
    obtain ⟨g, h1, h2, h3, h4⟩ := own_cells h.oown (by simp [ints]) hj
    refine ⟨g, 0, h1, by rw [hs]; exact h4, fun i hi => ?_⟩
    have : i = 0 := by omega
    subst this
    simp only [Nat.mul_one, Nat.add_zero]
    rw [World.cell?_of_block (same g 6 (h.to g h2) (by omega)), h3]
    simp [ints, List.getD_eq_getElem?_getD, hj]

theorem RunVal.below {w w' : World} {s : PS} {v : Value} (h : RunVal w s v) (hb : Below w.heap.size w w') : RunVal w' s v := by
  obtain ⟨qa, cq, ca, cc, oa, oc, rfl, h1, h2, h3⟩ := h
  exact ⟨qa, cq, ca, cc, oa, oc, rfl, h1.below hb, h2.below hb, (h3.below hb).mono hb.size⟩

/-- the guard around the machine that was just made -/
def LeafPost (B0 B : Nat) (z : World) (r : Except Int PS) (e : Ending) (w' : World) : Prop :=
  Below B0 z w' ∧ (∀ k, k < B → w'.heap[k]? = z.heap[k]?) ∧ match r with
  | .ok s => ∃ qa cq ca cc oa oc, e = .returned (.tuple #[.agg #[.slice qa s.arr.length cq, .slice ca s.ctx.length cc, .slice oa s.out.length oc, .int .i64 s.steps], .int .i64 0]) ∧
      ∀ w2 : World, (∀ k, B ≤ k → w2.heap[k]? = w'.heap[k]?) → w2.heap.size = w'.heap.size → RunVal w2 s (.agg #[.slice qa s.arr.length cq, .slice ca s.ctx.length cc, .slice oa s.out.length oc, .int .i64 s.steps])
  | .error n => e = .returned (.tuple #[zeroRunV, .int .i64 n])

theorem guard_leaf {c : MC} {arr : List (List Int)} {ctx : List Int} {r : Except Int PS} (hr : RunsTo c (c.init arr ctx) r) {B B0 : Nat} (hBB : B0 ≤ B) {rb sb cb cc : Nat} {va : Option Addr} {vc : Nat} {w : World} (h : Parts B c arr ctx rb sb cb cc va vc w)
    {arsA codeA ptA : Option Addr} {arsC codeC ptC : Nat} (h1 : RowB B0 w 5 codeA c.cd.length fun i j => (c.cd.getD i default).cell j) (h2 : RowB B0 w 1 ptA c.pt.length fun i _ => .int .i64 (c.pt.getD i 0 : Nat))
    (h3 : RowB B0 w 2 arsA c.ars.length fun i j => (c.ars.getD i default).cell j) (hn : arr.length ≤ 8) :
    Calls Try.prog 53 #[.func (.func 54) #[.pointer (some ⟨w.heap.size, 0, none⟩)] #[]]
      (w.alloc (.cells #[.slice arsA c.ars.length arsC, .int .i64 c.regs, .int .i64 c.spills, .slice codeA c.cd.length codeC, .slice ptA c.pt.length ptC, .slice va arr.length vc,
   .slice (some ⟨cb, 0, none⟩) ctx.length cc, .int .u32 c.input, .bool c.ended, .int .i64 c.fuel, .slice (some ⟨rb, 0, none⟩) c.regs c.regs, .slice (some ⟨sb, 0, none⟩) c.spills c.spills,
   .slice none 0 0, .slice none 0 0, .int .i64 0, .int .i64 0] 101)) (LeafPost B0 B w r) := by
  obtain ⟨L, τ, w', hw', e1, e2, e3, e4, e5, e6, e7, e8, e9, e10, e11, e12, e13, htau, R⟩ := h.rep hBB (arsC := arsC) (codeC := codeC) (ptC := ptC) h1 h2 h3
  have hlit : w' = (w.alloc (.cells #[.slice arsA c.ars.length arsC, .int .i64 c.regs, .int .i64 c.spills, .slice codeA c.cd.length codeC, .slice ptA c.pt.length ptC, .slice va arr.length vc,
   .slice (some ⟨cb, 0, none⟩) ctx.length cc, .int .u32 c.input, .bool c.ended, .int .i64 c.fuel, .slice (some ⟨rb, 0, none⟩) c.regs c.regs, .slice (some ⟨sb, 0, none⟩) c.spills c.spills,
   .slice none 0 0, .slice none 0 0, .int .i64 0, .int .i64 0] 101)) := by
    rw [hw']; simp [mcells, MC.init, e2, e3, e4, e5, e6, e7, e8, e9, e10, e11, e12, e13]
  rw [← hlit, ← e1]
  obtain ⟨Inv, μ, fin, hF, hI, hS, hfin, hi0, rfl, hok⟩ := hr
  have hrun : ∀ τ1 w1, Rep B0 L c (c.init arr ctx) τ1 (.slice none 0 0) (.slice none 0 0) w1 → Calls Try.prog 54 #[.pointer (some ⟨L.mb, 0, none⟩)] w1 (RunPost B0 L c τ1 w1 (fin (c.init arr ctx))) :=
    fun τ1 w1 R1 => run_any Inv μ fin hF hI hS hfin R1 hi0
  have hbz : Below w.heap.size w w' := by rw [hw']; exact (Below.refl _ _).alloc (Nat.le_refl _) _
  have hB := h.bB
  generalize hf : fin (c.init arr ctx) = r at hrun hok
  cases r with
  | error n =>
    refine (guarded_err R hrun).mono ?_
    rintro e w'' ⟨hb, hfo, he⟩
    refine ⟨(hbz.mono (by omega)).trans hb, fun k hk => ?_, he⟩
    rw [hfo k (by have := hbz.size; omega) (by rw [htau k hk]; omega), hbz.block k (by omega)]
  | ok s =>
    have F := hF s (hok s rfl)
    refine (guarded_ok R (fun s' hs' => by have := F.arr; have := F.amax; omega) hrun).mono ?_
    rintro e w'' ⟨hb, hfo, τ', lv, ov, R', htg, he⟩
    obtain ⟨oa, oc, rfl⟩ : ∃ oa oc, ov = .slice oa s.out.length oc := by
      rcases R'.oown.2 with ⟨h1, h2⟩ | ⟨g, cc, cur, h1, _⟩
      · exact ⟨none, 0, by rw [h1, h2]⟩
      · exact ⟨_, cc, h1⟩
    refine ⟨(hbz.mono (by omega)).trans hb, fun k hk => ?_, _, _, _, _, oa, oc, he, fun w2 h5 h6 => ?_⟩
    · rw [hfo k (by have := hbz.size; omega) (by rw [htau k hk]; omega), hbz.block k (by omega)]
    · have ht : ∀ x, x < B → 1000 ≤ τ' x := fun x hx => by rw [htg x (by have := hbz.size; omega) (by rw [htau x hx]; omega), htau x hx]; omega
      exact R'.val_other ht (by have := F.arr; have := F.amax; omega) h5 h6

end Go.Proofs.Ytefdnjhhaejgbaa
