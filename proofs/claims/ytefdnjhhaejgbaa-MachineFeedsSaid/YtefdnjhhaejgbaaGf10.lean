/- A part of the proof of MachineFeeds: H. No condition. -/
import Derived.Deep.Cut
import Derived.Deep.LoopGhost
import Derived.Test.YtefdnjhhaejgbaaGf09
set_option linter.unusedSimpArgs false
set_option linter.unusedVariables false
namespace Go.Proofs.Ytefdnjhhaejgbaa
open Go.RowKit
set_option linter.unusedVariables false
theorem Fine.tick {c : MC} {s : PS} (F : Fine c s) (h : s.steps < c.fuel) : Fine c { s with steps := s.steps + 1 } :=
  { F with st0 := by have := F.st0; show 0 ≤ s.steps + 1; omega, st1 := by show s.steps + 1 ≤ c.fuel; omega }
theorem Rep.retag {B : Nat} {L : Lay} {c : MC} {s : PS} {τ : Nat → Nat} {lv ov : Value} {w : World} (h : Rep B L c s τ lv ov w) : Rep B L c s (fun x => if w.heap.size ≤ x then 1000 else τ x) lv ov w := by
  have hm := h.mac.lt
  have hr := h.reg.lt
  have hs := h.spl.lt
  have hc := h.lt.2.2.2
  exact { h with
    outer := fun k hk => by
      obtain ⟨q, qo, h1, h2, h3, h4⟩ := h.outer k hk
      exact ⟨q, qo, h1, by rw [if_neg (by omega)]; exact h2, h3, h4⟩
    tm := by show (if _ then _ else _) = _; rw [if_neg (by omega)]; exact h.tm
    tr := by show (if _ then _ else _) = _; rw [if_neg (by omega)]; exact h.tr
    ts := by show (if _ then _ else _) = _; rw [if_neg (by omega)]; exact h.ts
    tc := by show (if _ then _ else _) = _; rw [if_neg (by omega)]; exact h.tc
    ta := fun k hk => by
      obtain ⟨t, ht⟩ := h.arr k hk
      have := ht.lt
      show (if _ then _ else _) = _; rw [if_neg (by omega)]; exact h.ta k hk
    tl := fun g hg => by have := (h.lown.lt g hg).2; show (if _ then _ else _) = _; rw [if_neg (by omega)]; exact h.tl g hg
    to := fun g hg => by have := (h.oown.lt g hg).2; show (if _ then _ else _) = _; rw [if_neg (by omega)]; exact h.to g hg }
structure RunAt (B : Nat) (L : Lay) (c : MC) (Inv : PS → Prop) (fin : PS → Except Int PS) (r0 : Except Int PS) (rb tb : Nat) (τ0 : Nat → Nat) (w : World) (s : PS) (τ : Nat → Nat) (lv ov : Value) (wr : World) : Prop where
  rep : Rep B L c s τ lv ov wr
  inv : Inv s
  fin : fin s = r0
  bel : Below B w wr
  res : wr.heap[rb]? = some (.cells #[.slice none 0 0, .slice none 0 0, .slice none 0 0, .int .i64 0] 49)
  tab : wr.heap[tb]? = some (.map effEntries 15)
  trb : 1000 ≤ τ rb
  ttb : 1000 ≤ τ tb
  hrb : B ≤ rb
  fo : Foreign τ0 w wr
  tg : ∀ k, k < w.heap.size → 1000 ≤ τ0 k → τ k = τ0 k
def RunRel (B : Nat) (L : Lay) (c : MC) (Inv : PS → Prop) (μ : PS → Nat) (fin : PS → Except Int PS) (r0 : Except Int PS) (rb tb : Nat) (τ0 : Nat → Nat) (w : World) (k : Nat) (wr : World) : Prop :=
  ∃ s τ lv ov, RunAt B L c Inv fin r0 rb tb τ0 w s τ lv ov wr ∧ μ s = k
def RunPost (B : Nat) (L : Lay) (c : MC) (τ0 : Nat → Nat) (w : World) (r : Except Int PS) (e : Ending) (w' : World) : Prop :=
  match r with
  | .ok s => Below B w w' ∧ Foreign τ0 w w' ∧ ∃ τ lv ov, Rep B L c s τ lv ov w' ∧ (∀ k, k < w.heap.size → 1000 ≤ τ0 k → τ k = τ0 k) ∧ e = .returned (.agg #[.slice L.arrA s.arr.length L.arrC, .slice (some ⟨L.cb, 0, none⟩) s.ctx.length L.ccap, ov, .int .i64 s.steps])
  | .error n => e = .panicked (failed n) ∧ Below B w w' ∧ Foreign τ0 w w'
set_option maxRecDepth 100000 in
set_option maxHeartbeats 1000000 in
theorem run_any {B : Nat} {L : Lay} {c : MC} (Inv : PS → Prop) (μ : PS → Nat) (fin : PS → Except Int PS)
    (hF : ∀ s, Inv s → Fine c s)
    (hI : ∀ s, Inv s → s.pc < c.cd.length → chkI c.regs c.spills c.ars.length (c.cd.getD s.pc default) = 0 ∧ (0 ≤ (c.cd.getD s.pc default).arg ∧ (c.cd.getD s.pc default).arg < 4294967296) ∧
      ((c.cd.getD s.pc default).op = 30 → s.loops ≠ []) ∧ ((c.cd.getD s.pc default).op = 29 → s.loops.length < 16))
    (hS : ∀ s s', Inv s → s.pc < c.cd.length → mstep c s = .ok s' → Inv s' ∧ μ s' < μ s)
    (hfin : ∀ s, Inv s → fin s = if s.pc < c.cd.length then (mstep c s).bind fin else .ok s)
    {s0 : PS} {τ0 : Nat → Nat} {lv0 ov0 : Value} {w : World} (R0 : Rep B L c s0 τ0 lv0 ov0 w) (h0 : Inv s0) :
    Calls Try.prog 54 #[.pointer (some ⟨L.mb, 0, none⟩)] w (RunPost B L c τ0 w (fin s0)) := by
  have HF := Lib.hid hF
  have HI := Lib.hid hI
  have HS := Lib.hid hS
  have Hfin := Lib.hid hfin
  clear hF hI hS hfin
  have start : ∀ wr, wr = (w.alloc (.cells #[.slice none 0 0, .slice none 0 0, .slice none 0 0, .int .i64 0] 49)).alloc (.map effEntries 15) →
      RunRel B L c Inv μ fin (fin s0) w.heap.size (w.heap.size + 1) τ0 w (μ s0) wr := by
    rintro wr rfl
    have hb : Below w.heap.size w ((w.alloc (.cells #[.slice none 0 0, .slice none 0 0, .slice none 0 0, .int .i64 0] 49)).alloc (.map effEntries 15)) := ((Below.refl _ _).alloc (by simp) _).alloc (by simp) _
    refine ⟨s0, _, lv0, ov0, ⟨R0.retag.below hb, h0, rfl, hb.mono R0.hB, ?_, heap_new2 _ _ _, by simp, by simp, R0.hB, Foreign.of_below hb, fun k hk _ => if_neg (by omega)⟩, rfl⟩
    have h1 := heap_new1 w (.cells #[.slice none 0 0, .slice none 0 0, .slice none 0 0, .int .i64 0] 49)
    rw [Below.heap_alloc _ _ _ (by simp)]
    exact h1
  have HST := Lib.hid start
  have HR := Lib.hid R0
  clear start R0
  go_enter Try.func54, Try.ntmps54
  go_wp2_with (go_at_call 86; refine (effects_any _).mono ?_; rintro e w' ⟨rfl, rfl⟩)
  go_loopg [] (μ s0) (fun k wr => RunRel B L c Inv μ fin (fin s0) w.heap.size (w.heap.size + 1) τ0 w k wr)
  case atStart => exact HST.out _ rfl
  case round =>
    obtain ⟨s, τ, lv, ov, RA, hk⟩ := hrel
    have HK := Lib.hid hk
    clear hk
    have hmm := RA.rep.mac.lt
    have c15 : wr.cell? ⟨L.mb, 15, none⟩ = some (.int .i64 s.pc) := RA.rep.mac.cell 15
    have F := HF.out s RA.inv
    by_cases hpc : s.pc < c.cd.length
    · have hpc' := nat_cast_lt hpc
      have hd : decide ((s.pc : Int) < (c.cd.length : Int)) = true := by simp [hpc]
      have hd2 : decide (s.pc < c.cd.length) = true := by simp [hpc]
      obtain ⟨b0, o0, hA, hb0, hcells⟩ := RA.rep.ro.code s.pc hpc
      have c3 : wr.cell? ⟨L.mb, 3, none⟩ = some (.slice (some ⟨b0, o0, none⟩) c.cd.length L.codeC) := by have := RA.rep.mac.cell 3; rw [← hA]; exact this
      clear hA
      have hb0' : b0 < wr.heap.size := Nat.lt_of_lt_of_le hb0 RA.rep.hB
      have hcells2 : ∀ j, j < 5 → wr.cell? ⟨b0, o0 + s.pc * 5 + j, none⟩ = some ((c.cd.getD s.pc default).cell j) := hcells
      clear hcells
      generalize hi : c.cd.getD s.pc default = i at hcells2
      obtain ⟨op, to, a, bb, arg⟩ := i
      have k0 : wr.cell? ⟨b0, o0 + s.pc * 5, none⟩ = some (.int .i64 op) := hcells2 0 (by omega)
      have k1 : wr.cell? ⟨b0, o0 + s.pc * 5 + 1, none⟩ = some (.int .i64 to) := hcells2 1 (by omega)
      have k2 : wr.cell? ⟨b0, o0 + s.pc * 5 + 1 + 1, none⟩ = some (.int .i64 a) := hcells2 2 (by omega)
      have k3 : wr.cell? ⟨b0, o0 + s.pc * 5 + 1 + 1 + 1, none⟩ = some (.int .i64 bb) := hcells2 3 (by omega)
      have k4 : wr.cell? ⟨b0, o0 + s.pc * 5 + 1 + 1 + 1 + 1, none⟩ = some (.int .u32 arg) := hcells2 4 (by omega)
      have HIi := Lib.hid hi
      clear hcells2 hi
      go_wp2
      refine wp_region_grew [3, 8] [0, 1, 2, 4, 5, 6, 7, 9, 10] [(2, 0), (2, 1), (2, 2), (2, 4), (2, 5), (2, 6), (2, 7), (1, 3), (1, 8), (2, 9), (2, 10)] (by kernel_rfl) (by kernel_rfl) (fun c a d v w h => by cases d <;> exact h) ?_
      simp only [getPlan, List.filterMap_cons, List.filterMap_nil, List.getElem?_toArray, List.getElem?_cons_succ, List.getElem?_cons_zero, Option.map_some]
      repeat ((first | refine wpPlan_pure (fun K hK => ?_) | refine wpPlan_float (fun K hK => ?_)); go_simp; refine hK _ ?_; clear hK K)
      refine wpPlan_nil ?_
      go_wp2_with fail
      refine wp_region_grew [4, 8, 10] [0, 1, 2, 3, 5, 6, 7, 9] [(2, 0), (2, 1), (2, 2), (2, 3), (2, 5), (2, 6), (2, 7), (1, 4), (1, 8), (2, 9), (1, 10), (0, 11), (0, 12)] (by kernel_rfl) (by kernel_rfl) (fun c a d v w h => by cases d <;> exact h) ?_
      simp only [getPlan, List.filterMap_cons, List.filterMap_nil, List.getElem?_toArray, List.getElem?_cons_succ, List.getElem?_cons_zero, Option.map_some]
      repeat ((first | refine wpPlan_pure (fun K hK => ?_) | refine wpPlan_float (fun K hK => ?_)); go_simp; refine hK _ ?_; clear hK K)
      refine wpPlan_keep ?_
      go_wp2_with fail
      refine ⟨grew_below ((Below.refl _ _).alloc (by simp) _).drew, ?_⟩
      refine wpPlan_tail (by kernel_rfl) ?_
      simp only [List.map_cons, List.map_nil]
      go_upto_region 5 with (fail)
      refine wp_gen (fun w2 => Rep B L c s τ lv ov w2 ∧ (Below B w w2 ∧ Foreign τ0 w w2) ∧ w2.heap[w.heap.size]? = some (.cells #[.slice none 0 0, .slice none 0 0, .slice none 0 0, .int .i64 0] 49) ∧ w2.heap[w.heap.size + 1]? = some (.map effEntries 15) ∧
        wr.heap.size < w2.heap.size ∧ w2.cell? ⟨wr.heap.size, 0, none⟩ = some (.int .i64 op) ∧ w2.cell? ⟨wr.heap.size, 1, none⟩ = some (.int .i64 to) ∧ w2.cell? ⟨wr.heap.size, 2, none⟩ = some (.int .i64 a) ∧ w2.cell? ⟨wr.heap.size, 3, none⟩ = some (.int .i64 bb) ∧ w2.cell? ⟨wr.heap.size, 4, none⟩ = some (.int .u32 arg)) ?_ ?_
      · have hbw : Below wr.heap.size wr (wr.alloc (.cells #[.int .i64 op, .int .i64 to, .int .i64 a, .int .i64 bb, .int .u32 arg] 61)).drew.drew := ((Below.refl _ _).alloc (Nat.le_refl _) _).drew.drew
        have l1 : w.heap.size < wr.heap.size := (Array.getElem?_eq_some_iff.1 RA.res).1
        have l2 : w.heap.size + 1 < wr.heap.size := (Array.getElem?_eq_some_iff.1 RA.tab).1
        exact ⟨RA.rep.below hbw, ⟨RA.bel.trans (hbw.mono RA.rep.hB), RA.fo.below (hbw.mono RA.bel.size)⟩, by rw [hbw.block _ l1]; exact RA.res, by rw [hbw.block _ l2]; exact RA.tab, by simp, by simp [go_sem], by simp [go_sem], by simp [go_sem], by simp [go_sem], by simp [go_sem]⟩
      rintro w2 ⟨R2, ⟨hb2, hf2⟩, hres2, htab2, hsz2, x0, x1, x2, x3, x4⟩
      have hmm2 := R2.mac.lt
      clear k0 k1 k2 k3 k4 c3 c15 hb0' hb0 hd hd2 hpc'
      have htg : ∀ k, 1000 ≤ τ k → k ≠ L.mb := fun k hk e => by rw [e, R2.tm] at hk; omega
      rcases (show (op = 28) ∨ (op = 31) ∨ (op ≠ 28 ∧ op ≠ 31) by omega) with hop | hop | hop
      · have n1 : (op != 28) = false := by simp [hop]
        have HO : Hid (¬ (op ≠ 28 ∧ op ≠ 31)) := Lib.hid (by omega)
        clear hop
        go_upto_region 7 with (fail)
        refine wp_gen (fun w3 => ∃ s1, (if op ≠ 28 ∧ op ≠ 31 then tick c s else .ok s) = .ok s1 ∧ Fine c s1 ∧ s1.pc = s.pc ∧ s1.loops = s.loops ∧ Rep B L c s1 τ lv ov w3 ∧ (Below B w w3 ∧ Foreign τ0 w w3) ∧ w3.heap[w.heap.size]? = some (.cells #[.slice none 0 0, .slice none 0 0, .slice none 0 0, .int .i64 0] 49) ∧ w3.heap[w.heap.size + 1]? = some (.map effEntries 15) ∧
        wr.heap.size < w3.heap.size ∧ w3.cell? ⟨wr.heap.size, 0, none⟩ = some (.int .i64 op) ∧ w3.cell? ⟨wr.heap.size, 1, none⟩ = some (.int .i64 to) ∧ w3.cell? ⟨wr.heap.size, 2, none⟩ = some (.int .i64 a) ∧ w3.cell? ⟨wr.heap.size, 3, none⟩ = some (.int .i64 bb) ∧ w3.cell? ⟨wr.heap.size, 4, none⟩ = some (.int .u32 arg)) ⟨s, by rw [if_neg HO.out], F, rfl, rfl, R2, ⟨hb2, hf2⟩, hres2, htab2, hsz2, x0, x1, x2, x3, x4⟩ ?_
        rintro w3 ⟨s1, hs1, F1, hpc1, hlo1, R3, ⟨hb3, hf3⟩, hres3, htab3, hsz3, y0, y1, y2, y3, y4⟩
        clear x0 x1 x2 x3 x4 hsz2
        have HS1 := Lib.hid hs1
        obtain ⟨ck, ar, h30, h29⟩ := HI.out s RA.inv hpc
        rw [HIi.out] at ck ar h30 h29
        have tabc := eff_tab R3 F1 ⟨op, to, a, bb, arg⟩ ck ar (by rw [hpc1]; exact hpc) (fun h => by rw [hlo1]; exact h30 h) (fun h => by rw [hlo1]; exact h29 h)
        have hl := run_lookup_int (P := Try.prog) (T := 123) Try.underlying123 Try.underlying3 w3 (w.heap.size + 1) effEntries 15 htab3 op eff_keys .nilFunc (zero_eff _)
        have HP := Lib.hid (And.intro hres3 htab3)
        clear hs1 hpc1 hlo1 hres3 htab3 ck ar h30 h29 hres2 htab2
        have fin4 : ∀ s2 w4 τ' lv' ov', effect c s1 ⟨op, to, a, bb, arg⟩ = .ok s2 → Below B w3 w4 → Foreign τ w3 w4 → Rep B L c s2 τ' lv' ov' w4 → (∀ k, k < w3.heap.size → 1000 ≤ τ k → τ' k = τ k) →
            s2.pc + 1 ≤ 16384 ∧ μ { s2 with pc := s2.pc + 1 } < μ s ∧ RunRel B L c Inv μ fin (fin s0) w.heap.size (w.heap.size + 1) τ0 w (μ { s2 with pc := s2.pc + 1 }) (w4.setCell ⟨L.mb, 15, none⟩ (.int .i64 ((s2.pc : Int) + 1))) := by
          intro s2 w4 τ' lv' ov' he hb4 hfo R4 htag
          have hm : mstep c s = .ok { s2 with pc := s2.pc + 1 } := by
            simp only [mstep, HIi.out, HS1.out, Except.bind, he]
          obtain ⟨i1, i2⟩ := HS.out s _ RA.inv hpc hm
          have F2 := HF.out _ i1
          have hp2 := F2.pc
          have hp3 := F2.clen
          simp only at hp2
          obtain ⟨hres3, htab3⟩ := HP.out
          have l1 : w.heap.size < w3.heap.size := (Array.getElem?_eq_some_iff.1 hres3).1
          have l2 : w.heap.size + 1 < w3.heap.size := (Array.getElem?_eq_some_iff.1 htab3).1
          have tr1 : 1000 ≤ τ' w.heap.size := by rw [htag _ l1 RA.trb]; exact RA.trb
          have tr2 : 1000 ≤ τ' (w.heap.size + 1) := by rw [htag _ l2 RA.ttb]; exact RA.ttb
          have ne1 : w.heap.size ≠ L.mb := fun e => by rw [e, R4.tm] at tr1; omega
          have ne2 : w.heap.size + 1 ≠ L.mb := fun e => by rw [e, R4.tm] at tr2; omega
          refine ⟨by omega, i2, { s2 with pc := s2.pc + 1 }, τ', lv', ov', ⟨by simpa using R4.setPc (s2.pc + 1), i1, ?_, (hb3.trans hb4).setCell R4.bm _, ?_, ?_, tr1, tr2, RA.hrb, ?_, ?_⟩, rfl⟩
          · rw [← RA.fin, Hfin.out s RA.inv, if_pos hpc, hm]; rfl
          · rw [Below.heap_setCell _ _ _ _ ne1, hfo _ l1 RA.trb]; exact hres3
          · rw [Below.heap_setCell _ _ _ _ ne2, hfo _ l2 RA.ttb]; exact htab3
          · intro k hk ht
            have hk3 : k < w3.heap.size := Nat.lt_of_lt_of_le hk hb3.size
            have ht3 : 1000 ≤ τ k := by rw [RA.tg k hk ht]; exact ht
            have ht4 : 1000 ≤ τ' k := by rw [htag k hk3 ht3]; exact ht3
            rw [Below.heap_setCell _ _ _ _ (fun e => by simp at e; rw [e, R4.tm] at ht4; omega), hfo k hk3 ht3]; exact hf3 k hk ht
          · intro k hk ht
            have hk3 : k < w3.heap.size := Nat.lt_of_lt_of_le hk hb3.size
            rw [htag k hk3 (by rw [RA.tg k hk ht]; exact ht), RA.tg k hk ht]
        have err4 : ∀ n, effect c s1 ⟨op, to, a, bb, arg⟩ = .error n → fin s0 = .error n := by
          intro n he
          rw [← RA.fin, Hfin.out s RA.inv, if_pos hpc]
          simp only [mstep, HIi.out, HS1.out, Except.bind, he]
        have H4 := Lib.hid fin4
        have HE4 := Lib.hid err4
        clear fin4 err4
        rcases tabc with ⟨f, hv, hent, hcall⟩ | ⟨hv, hcall⟩
        all_goals
          rw [hv] at hl
          simp only [Option.getD_some, Option.isSome_some, Option.getD_none, Option.isSome_none] at hl
          have HC := Lib.hid hcall
          clear hcall hv
          go_wp2_with fail
          refine (HC.out).mono ?_
          intro e w4 hpost
          generalize heff : effect c s1 ⟨op, to, a, bb, arg⟩ = r at hpost
          have HEF := Lib.hid heff
          clear heff
          cases r with
          | error n =>
            obtain ⟨rfl, hb4, hfo4⟩ := hpost
            refine ⟨rfl, ?_⟩
            rw [HE4.out n HEF.out]
            exact ⟨rfl, hb3.trans hb4, fun k hk ht => by rw [hfo4 k (Nat.lt_of_lt_of_le hk hb3.size) (by rw [RA.tg k hk ht]; exact ht)]; exact hf3 k hk ht⟩
          | ok s2 =>
            obtain ⟨rfl, hb4, hfo, τ', lv', ov', R4, htag⟩ := hpost
            obtain ⟨p1, p2, p3⟩ := H4.out s2 w4 τ' lv' ov' HEF.out hb4 hfo R4 htag
            have d15 : w4.cell? ⟨L.mb, 15, none⟩ = some (.int .i64 s2.pc) := R4.mac.cell 15
            have z15 := R4.mac.frozen 15
            have HP3 := Lib.hid p3
            clear p3 htag hfo
            go_wp2_with fail
            go_roundg (μ { s2 with pc := s2.pc + 1 })
            case measure => rw [← HK.out]; exact p2
            case rel => exact HP3.out
      · have n1 : (op != 28) = true := by simp [hop]
        have n2 : (op != 31) = false := by simp [hop]
        have HO : Hid (¬ (op ≠ 28 ∧ op ≠ 31)) := Lib.hid (by omega)
        clear hop
        go_upto_region 7 with (fail)
        refine wp_gen (fun w3 => ∃ s1, (if op ≠ 28 ∧ op ≠ 31 then tick c s else .ok s) = .ok s1 ∧ Fine c s1 ∧ s1.pc = s.pc ∧ s1.loops = s.loops ∧ Rep B L c s1 τ lv ov w3 ∧ (Below B w w3 ∧ Foreign τ0 w w3) ∧ w3.heap[w.heap.size]? = some (.cells #[.slice none 0 0, .slice none 0 0, .slice none 0 0, .int .i64 0] 49) ∧ w3.heap[w.heap.size + 1]? = some (.map effEntries 15) ∧
        wr.heap.size < w3.heap.size ∧ w3.cell? ⟨wr.heap.size, 0, none⟩ = some (.int .i64 op) ∧ w3.cell? ⟨wr.heap.size, 1, none⟩ = some (.int .i64 to) ∧ w3.cell? ⟨wr.heap.size, 2, none⟩ = some (.int .i64 a) ∧ w3.cell? ⟨wr.heap.size, 3, none⟩ = some (.int .i64 bb) ∧ w3.cell? ⟨wr.heap.size, 4, none⟩ = some (.int .u32 arg)) ⟨s, by rw [if_neg HO.out], F, rfl, rfl, R2, ⟨hb2, hf2⟩, hres2, htab2, hsz2, x0, x1, x2, x3, x4⟩ ?_
        rintro w3 ⟨s1, hs1, F1, hpc1, hlo1, R3, ⟨hb3, hf3⟩, hres3, htab3, hsz3, y0, y1, y2, y3, y4⟩
        clear x0 x1 x2 x3 x4 hsz2
        have HS1 := Lib.hid hs1
        obtain ⟨ck, ar, h30, h29⟩ := HI.out s RA.inv hpc
        rw [HIi.out] at ck ar h30 h29
        have tabc := eff_tab R3 F1 ⟨op, to, a, bb, arg⟩ ck ar (by rw [hpc1]; exact hpc) (fun h => by rw [hlo1]; exact h30 h) (fun h => by rw [hlo1]; exact h29 h)
        have hl := run_lookup_int (P := Try.prog) (T := 123) Try.underlying123 Try.underlying3 w3 (w.heap.size + 1) effEntries 15 htab3 op eff_keys .nilFunc (zero_eff _)
        have HP := Lib.hid (And.intro hres3 htab3)
        clear hs1 hpc1 hlo1 hres3 htab3 ck ar h30 h29 hres2 htab2
        have fin4 : ∀ s2 w4 τ' lv' ov', effect c s1 ⟨op, to, a, bb, arg⟩ = .ok s2 → Below B w3 w4 → Foreign τ w3 w4 → Rep B L c s2 τ' lv' ov' w4 → (∀ k, k < w3.heap.size → 1000 ≤ τ k → τ' k = τ k) →
            s2.pc + 1 ≤ 16384 ∧ μ { s2 with pc := s2.pc + 1 } < μ s ∧ RunRel B L c Inv μ fin (fin s0) w.heap.size (w.heap.size + 1) τ0 w (μ { s2 with pc := s2.pc + 1 }) (w4.setCell ⟨L.mb, 15, none⟩ (.int .i64 ((s2.pc : Int) + 1))) := by
          intro s2 w4 τ' lv' ov' he hb4 hfo R4 htag
          have hm : mstep c s = .ok { s2 with pc := s2.pc + 1 } := by
            simp only [mstep, HIi.out, HS1.out, Except.bind, he]
          obtain ⟨i1, i2⟩ := HS.out s _ RA.inv hpc hm
          have F2 := HF.out _ i1
          have hp2 := F2.pc
          have hp3 := F2.clen
          simp only at hp2
          obtain ⟨hres3, htab3⟩ := HP.out
          have l1 : w.heap.size < w3.heap.size := (Array.getElem?_eq_some_iff.1 hres3).1
          have l2 : w.heap.size + 1 < w3.heap.size := (Array.getElem?_eq_some_iff.1 htab3).1
          have tr1 : 1000 ≤ τ' w.heap.size := by rw [htag _ l1 RA.trb]; exact RA.trb
          have tr2 : 1000 ≤ τ' (w.heap.size + 1) := by rw [htag _ l2 RA.ttb]; exact RA.ttb
          have ne1 : w.heap.size ≠ L.mb := fun e => by rw [e, R4.tm] at tr1; omega
          have ne2 : w.heap.size + 1 ≠ L.mb := fun e => by rw [e, R4.tm] at tr2; omega
          refine ⟨by omega, i2, { s2 with pc := s2.pc + 1 }, τ', lv', ov', ⟨by simpa using R4.setPc (s2.pc + 1), i1, ?_, (hb3.trans hb4).setCell R4.bm _, ?_, ?_, tr1, tr2, RA.hrb, ?_, ?_⟩, rfl⟩
          · rw [← RA.fin, Hfin.out s RA.inv, if_pos hpc, hm]; rfl
          · rw [Below.heap_setCell _ _ _ _ ne1, hfo _ l1 RA.trb]; exact hres3
          · rw [Below.heap_setCell _ _ _ _ ne2, hfo _ l2 RA.ttb]; exact htab3
          · intro k hk ht
            have hk3 : k < w3.heap.size := Nat.lt_of_lt_of_le hk hb3.size
            have ht3 : 1000 ≤ τ k := by rw [RA.tg k hk ht]; exact ht
            have ht4 : 1000 ≤ τ' k := by rw [htag k hk3 ht3]; exact ht3
            rw [Below.heap_setCell _ _ _ _ (fun e => by simp at e; rw [e, R4.tm] at ht4; omega), hfo k hk3 ht3]; exact hf3 k hk ht
          · intro k hk ht
            have hk3 : k < w3.heap.size := Nat.lt_of_lt_of_le hk hb3.size
            rw [htag k hk3 (by rw [RA.tg k hk ht]; exact ht), RA.tg k hk ht]
        have err4 : ∀ n, effect c s1 ⟨op, to, a, bb, arg⟩ = .error n → fin s0 = .error n := by
          intro n he
          rw [← RA.fin, Hfin.out s RA.inv, if_pos hpc]
          simp only [mstep, HIi.out, HS1.out, Except.bind, he]
        have H4 := Lib.hid fin4
        have HE4 := Lib.hid err4
        clear fin4 err4
        rcases tabc with ⟨f, hv, hent, hcall⟩ | ⟨hv, hcall⟩
        all_goals
          rw [hv] at hl
          simp only [Option.getD_some, Option.isSome_some, Option.getD_none, Option.isSome_none] at hl
          have HC := Lib.hid hcall
          clear hcall hv
          go_wp2_with fail
          refine (HC.out).mono ?_
          intro e w4 hpost
          generalize heff : effect c s1 ⟨op, to, a, bb, arg⟩ = r at hpost
          have HEF := Lib.hid heff
          clear heff
          cases r with
          | error n =>
            obtain ⟨rfl, hb4, hfo4⟩ := hpost
            refine ⟨rfl, ?_⟩
            rw [HE4.out n HEF.out]
            exact ⟨rfl, hb3.trans hb4, fun k hk ht => by rw [hfo4 k (Nat.lt_of_lt_of_le hk hb3.size) (by rw [RA.tg k hk ht]; exact ht)]; exact hf3 k hk ht⟩
          | ok s2 =>
            obtain ⟨rfl, hb4, hfo, τ', lv', ov', R4, htag⟩ := hpost
            obtain ⟨p1, p2, p3⟩ := H4.out s2 w4 τ' lv' ov' HEF.out hb4 hfo R4 htag
            have d15 : w4.cell? ⟨L.mb, 15, none⟩ = some (.int .i64 s2.pc) := R4.mac.cell 15
            have z15 := R4.mac.frozen 15
            have HP3 := Lib.hid p3
            clear p3 htag hfo
            go_wp2_with fail
            go_roundg (μ { s2 with pc := s2.pc + 1 })
            case measure => rw [← HK.out]; exact p2
            case rel => exact HP3.out
      · have n1 : (op != 28) = true := by simp [hop.1]
        have n2 : (op != 31) = true := by simp [hop.2]
        have HO : Hid (op ≠ 28 ∧ op ≠ 31) := Lib.hid hop
        clear hop
        by_cases hsf : s.steps < c.fuel
        · go_wp2_with fail
          refine (step_yes L.mb s.steps c.fuel w2 (R2.mac.cell 14) (R2.mac.cell 9) (R2.mac.frozen _) hsf F.st0 F.fu).mono ?_
          rintro e w3 ⟨rfl, n, rfl⟩
          go_upto_region 7 with (fail)
          refine wp_gen (fun w3 => ∃ s1, (if op ≠ 28 ∧ op ≠ 31 then tick c s else .ok s) = .ok s1 ∧ Fine c s1 ∧ s1.pc = s.pc ∧ s1.loops = s.loops ∧ Rep B L c s1 τ lv ov w3 ∧ (Below B w w3 ∧ Foreign τ0 w w3) ∧ w3.heap[w.heap.size]? = some (.cells #[.slice none 0 0, .slice none 0 0, .slice none 0 0, .int .i64 0] 49) ∧ w3.heap[w.heap.size + 1]? = some (.map effEntries 15) ∧
        wr.heap.size < w3.heap.size ∧ w3.cell? ⟨wr.heap.size, 0, none⟩ = some (.int .i64 op) ∧ w3.cell? ⟨wr.heap.size, 1, none⟩ = some (.int .i64 to) ∧ w3.cell? ⟨wr.heap.size, 2, none⟩ = some (.int .i64 a) ∧ w3.cell? ⟨wr.heap.size, 3, none⟩ = some (.int .i64 bb) ∧ w3.cell? ⟨wr.heap.size, 4, none⟩ = some (.int .u32 arg)) ?_ ?_
          · have hmb : ∀ k, k ≠ L.mb → ((w2.setCell ⟨L.mb, 14, none⟩ (.int .i64 (s.steps + 1))).drewN n).heap[k]? = w2.heap[k]? := fun k hk => Below.heap_setCell _ _ _ _ hk
            have hbx : wr.heap.size ≠ L.mb := by omega
            refine ⟨{ s with steps := s.steps + 1 }, by rw [if_pos HO.out, tick, if_pos hsf], F.tick hsf, rfl, rfl, (R2.setSteps _).below (below_drewN (Below.refl _ _) n), ⟨below_drewN (hb2.setCell R2.bm _) n, ?_⟩, ?_, ?_, ?_, ?_, ?_, ?_, ?_, ?_⟩
            · intro k hk ht; rw [hmb k (htg k (by rw [RA.tg k hk ht]; exact ht))]; exact hf2 k hk ht
            · rw [hmb _ (htg _ RA.trb)]; exact hres2
            · rw [hmb _ (htg _ RA.ttb)]; exact htab2
            · simpa [World.setCell] using hsz2
            · rw [World.cell?_of_block (hmb _ hbx)]; exact x0
            · rw [World.cell?_of_block (hmb _ hbx)]; exact x1
            · rw [World.cell?_of_block (hmb _ hbx)]; exact x2
            · rw [World.cell?_of_block (hmb _ hbx)]; exact x3
            · rw [World.cell?_of_block (hmb _ hbx)]; exact x4
          rintro w3 ⟨s1, hs1, F1, hpc1, hlo1, R3, ⟨hb3, hf3⟩, hres3, htab3, hsz3, y0, y1, y2, y3, y4⟩
          clear x0 x1 x2 x3 x4 hsz2
          have HS1 := Lib.hid hs1
          obtain ⟨ck, ar, h30, h29⟩ := HI.out s RA.inv hpc
          rw [HIi.out] at ck ar h30 h29
          have tabc := eff_tab R3 F1 ⟨op, to, a, bb, arg⟩ ck ar (by rw [hpc1]; exact hpc) (fun h => by rw [hlo1]; exact h30 h) (fun h => by rw [hlo1]; exact h29 h)
          have hl := run_lookup_int (P := Try.prog) (T := 123) Try.underlying123 Try.underlying3 w3 (w.heap.size + 1) effEntries 15 htab3 op eff_keys .nilFunc (zero_eff _)
          have HP := Lib.hid (And.intro hres3 htab3)
          clear hs1 hpc1 hlo1 hres3 htab3 ck ar h30 h29 hres2 htab2
          have fin4 : ∀ s2 w4 τ' lv' ov', effect c s1 ⟨op, to, a, bb, arg⟩ = .ok s2 → Below B w3 w4 → Foreign τ w3 w4 → Rep B L c s2 τ' lv' ov' w4 → (∀ k, k < w3.heap.size → 1000 ≤ τ k → τ' k = τ k) →
              s2.pc + 1 ≤ 16384 ∧ μ { s2 with pc := s2.pc + 1 } < μ s ∧ RunRel B L c Inv μ fin (fin s0) w.heap.size (w.heap.size + 1) τ0 w (μ { s2 with pc := s2.pc + 1 }) (w4.setCell ⟨L.mb, 15, none⟩ (.int .i64 ((s2.pc : Int) + 1))) := by
            intro s2 w4 τ' lv' ov' he hb4 hfo R4 htag
            have hm : mstep c s = .ok { s2 with pc := s2.pc + 1 } := by
              simp only [mstep, HIi.out, HS1.out, Except.bind, he]
            obtain ⟨i1, i2⟩ := HS.out s _ RA.inv hpc hm
            have F2 := HF.out _ i1
            have hp2 := F2.pc
            have hp3 := F2.clen
            simp only at hp2
            obtain ⟨hres3, htab3⟩ := HP.out
            have l1 : w.heap.size < w3.heap.size := (Array.getElem?_eq_some_iff.1 hres3).1
            have l2 : w.heap.size + 1 < w3.heap.size := (Array.getElem?_eq_some_iff.1 htab3).1
            have tr1 : 1000 ≤ τ' w.heap.size := by rw [htag _ l1 RA.trb]; exact RA.trb
            have tr2 : 1000 ≤ τ' (w.heap.size + 1) := by rw [htag _ l2 RA.ttb]; exact RA.ttb
            have ne1 : w.heap.size ≠ L.mb := fun e => by rw [e, R4.tm] at tr1; omega
            have ne2 : w.heap.size + 1 ≠ L.mb := fun e => by rw [e, R4.tm] at tr2; omega
            refine ⟨by omega, i2, { s2 with pc := s2.pc + 1 }, τ', lv', ov', ⟨by simpa using R4.setPc (s2.pc + 1), i1, ?_, (hb3.trans hb4).setCell R4.bm _, ?_, ?_, tr1, tr2, RA.hrb, ?_, ?_⟩, rfl⟩
            · rw [← RA.fin, Hfin.out s RA.inv, if_pos hpc, hm]; rfl
            · rw [Below.heap_setCell _ _ _ _ ne1, hfo _ l1 RA.trb]; exact hres3
            · rw [Below.heap_setCell _ _ _ _ ne2, hfo _ l2 RA.ttb]; exact htab3
            · intro k hk ht
              have hk3 : k < w3.heap.size := Nat.lt_of_lt_of_le hk hb3.size
              have ht3 : 1000 ≤ τ k := by rw [RA.tg k hk ht]; exact ht
              have ht4 : 1000 ≤ τ' k := by rw [htag k hk3 ht3]; exact ht3
              rw [Below.heap_setCell _ _ _ _ (fun e => by simp at e; rw [e, R4.tm] at ht4; omega), hfo k hk3 ht3]; exact hf3 k hk ht
            · intro k hk ht
              have hk3 : k < w3.heap.size := Nat.lt_of_lt_of_le hk hb3.size
              rw [htag k hk3 (by rw [RA.tg k hk ht]; exact ht), RA.tg k hk ht]
          have err4 : ∀ n, effect c s1 ⟨op, to, a, bb, arg⟩ = .error n → fin s0 = .error n := by
            intro n he
            rw [← RA.fin, Hfin.out s RA.inv, if_pos hpc]
            simp only [mstep, HIi.out, HS1.out, Except.bind, he]
          have H4 := Lib.hid fin4
          have HE4 := Lib.hid err4
          clear fin4 err4
          rcases tabc with ⟨f, hv, hent, hcall⟩ | ⟨hv, hcall⟩
          all_goals
            rw [hv] at hl
            simp only [Option.getD_some, Option.isSome_some, Option.getD_none, Option.isSome_none] at hl
            have HC := Lib.hid hcall
            clear hcall hv
            go_wp2_with fail
            refine (HC.out).mono ?_
            intro e w4 hpost
            generalize heff : effect c s1 ⟨op, to, a, bb, arg⟩ = r at hpost
            have HEF := Lib.hid heff
            clear heff
            cases r with
            | error n =>
              obtain ⟨rfl, hb4, hfo4⟩ := hpost
              refine ⟨rfl, ?_⟩
              rw [HE4.out n HEF.out]
              exact ⟨rfl, hb3.trans hb4, fun k hk ht => by rw [hfo4 k (Nat.lt_of_lt_of_le hk hb3.size) (by rw [RA.tg k hk ht]; exact ht)]; exact hf3 k hk ht⟩
            | ok s2 =>
              obtain ⟨rfl, hb4, hfo, τ', lv', ov', R4, htag⟩ := hpost
              obtain ⟨p1, p2, p3⟩ := H4.out s2 w4 τ' lv' ov' HEF.out hb4 hfo R4 htag
              have d15 : w4.cell? ⟨L.mb, 15, none⟩ = some (.int .i64 s2.pc) := R4.mac.cell 15
              have z15 := R4.mac.frozen 15
              have HP3 := Lib.hid p3
              clear p3 htag hfo
              go_wp2_with fail
              go_roundg (μ { s2 with pc := s2.pc + 1 })
              case measure => rw [← HK.out]; exact p2
              case rel => exact HP3.out
        · go_wp2_with fail
          refine (step_no L.mb s.steps c.fuel w2 (R2.mac.cell 14) (R2.mac.cell 9) (by omega)).mono ?_
          rintro e w3 ⟨rfl, n, rfl⟩
          have hf : fin s0 = .error 19 := by
            rw [← RA.fin, Hfin.out s RA.inv, if_pos hpc]
            simp only [mstep, HIi.out]
            rw [if_pos HO.out, tick, if_neg (by omega)]
            rfl
          refine ⟨rfl, ?_⟩
          rw [hf]
          exact ⟨rfl, below_drewN hb2 n, fun k hk ht => hf2 k hk ht⟩
    · obtain ⟨oa, oc, rfl⟩ : ∃ oa oc, ov = .slice oa s.out.length oc := by
        rcases RA.rep.oown.2 with ⟨h1, h2⟩ | ⟨g, cc, cur, h1, _⟩
        · exact ⟨none, 0, by rw [h1, h2]⟩
        · exact ⟨_, cc, h1⟩
      have hd : decide ((s.pc : Int) < (c.cd.length : Int)) = false := by simp; omega
      have hd2 : decide (s.pc < c.cd.length) = false := by simp; omega
      have c3 : wr.cell? ⟨L.mb, 3, none⟩ = some (.slice L.codeA c.cd.length L.codeC) := RA.rep.mac.cell 3
      have c5 : wr.cell? ⟨L.mb, 5, none⟩ = some (.slice L.arrA s.arr.length L.arrC) := RA.rep.mac.cell 5
      have c6 : wr.cell? ⟨L.mb, 5 + 1, none⟩ = some (.slice (some ⟨L.cb, 0, none⟩) s.ctx.length L.ccap) := RA.rep.mac.cell 6
      have c13 : wr.cell? ⟨L.mb, 13, none⟩ = some (.slice oa s.out.length oc) := RA.rep.mac.cell 13
      have c14 : wr.cell? ⟨L.mb, 14, none⟩ = some (.int .i64 s.steps) := RA.rep.mac.cell 14
      have hrl : w.heap.size < wr.heap.size := (Array.getElem?_eq_some_iff.1 RA.res).1
      have hrB : Blk wr w.heap.size [.slice none 0 0, .slice none 0 0, .slice none 0 0, .int .i64 0] 49 := RA.res
      have z0 : wr.cell? ⟨w.heap.size, 0, none⟩ = some (.slice none 0 0) := hrB.cell 0
      have z1 : wr.cell? ⟨w.heap.size, 0 + 1, none⟩ = some (.slice none 0 0) := hrB.cell 1
      have z2 : wr.cell? ⟨w.heap.size, 0 + 1 + 1, none⟩ = some (.slice none 0 0) := hrB.cell 2
      have z3 : wr.cell? ⟨w.heap.size, 0 + 1 + 1 + 1, none⟩ = some (.int .i64 0) := hrB.cell 3
      have f0 := hrB.frozen 0
      have f1 := hrB.frozen (0 + 1)
      have f2 := hrB.frozen (0 + 1 + 1)
      have f3 := hrB.frozen (0 + 1 + 1 + 1)
      go_wp2
      refine wp_region_grew [3, 8] [0, 1, 2, 4, 5, 6, 7, 9, 10] [(2, 0), (2, 1), (2, 2), (2, 4), (2, 5), (2, 6), (2, 7), (1, 3), (1, 8), (2, 9), (2, 10)] (by kernel_rfl) (by kernel_rfl) (fun c a d v w h => by cases d <;> exact h) ?_
      simp only [getPlan, List.filterMap_cons, List.filterMap_nil, List.getElem?_toArray, List.getElem?_cons_succ, List.getElem?_cons_zero, Option.map_some]
      repeat ((first | refine wpPlan_pure (fun K hK => ?_) | refine wpPlan_float (fun K hK => ?_)); go_simp; refine hK _ ?_; clear hK K)
      refine wpPlan_nil ?_
      go_wp2_with fail
      refine wp_region_grew [3, 7, 11] [0, 1, 2, 4, 5, 6, 8, 9, 10, 12] [(2, 0), (2, 1), (2, 2), (2, 4), (2, 5), (2, 6), (2, 8), (2, 9), (2, 10), (1, 3), (1, 7), (1, 11), (2, 12), (0, 13)] (by kernel_rfl) (by kernel_rfl) (fun c a d v w h => by cases d <;> exact h) ?_
      simp only [getPlan, List.filterMap_cons, List.filterMap_nil, List.getElem?_toArray, List.getElem?_cons_succ, List.getElem?_cons_zero, Option.map_some]
      repeat ((first | refine wpPlan_pure (fun K hK => ?_) | refine wpPlan_float (fun K hK => ?_)); go_simp; refine hK _ ?_; clear hK K)
      refine wpPlan_tail (by kernel_rfl) ?_
      simp only [List.map_cons, List.map_nil]
      go_wp2
      refine bodyPost_ret (v := .agg #[.slice L.arrA s.arr.length L.arrC, .slice (some ⟨L.cb, 0, none⟩) s.ctx.length L.ccap, .slice oa s.out.length oc, .int .i64 s.steps]) ?_ rfl ?_
      · have e0 := ((((hrB.set 0 (.slice L.arrA s.arr.length L.arrC)).set 1 (.slice (some ⟨L.cb, 0, none⟩) s.ctx.length L.ccap)).set 2 (.slice oa s.out.length oc)).set 3 (.int .i64 s.steps))
        have y0 := e0.cell 0
        have y1 := e0.cell 1
        have y2 := e0.cell 2
        have y3 := e0.cell 3
        simp only [List.set_cons_zero, List.set_cons_succ, List.getElem?_cons_zero, List.getElem?_cons_succ] at y0 y1 y2 y3
        simp [results, Try.results54, go_sem, y0, y1, y2, y3]
      · have hf : fin s0 = .ok s := by rw [← RA.fin, Hfin.out s RA.inv, if_neg hpc]
        rw [hf]
        have ha := F.arr
        have hax := F.amax
        have r1 := (((RA.rep.foreign RA.trb RA.hrb (by omega) 0 (.slice L.arrA s.arr.length L.arrC)).foreign RA.trb RA.hrb (by omega) 1 (.slice (some ⟨L.cb, 0, none⟩) s.ctx.length L.ccap)).foreign RA.trb RA.hrb (by omega) 2
          (.slice oa s.out.length oc)).foreign RA.trb RA.hrb (by omega) 3 (.int .i64 s.steps)
        refine ⟨((((RA.bel.setCell RA.hrb _).setCell RA.hrb _).setCell RA.hrb _).setCell RA.hrb _).drew.drew, ?_, τ, lv, _, r1.below ((Below.refl _ _).drew.drew), RA.tg, rfl⟩
        intro k hk ht
        have hkw : k ≠ w.heap.size := by omega
        show (((((wr.setCell _ _).setCell _ _).setCell _ _).setCell _ _)).heap[k]? = _
        rw [Below.heap_setCell _ _ _ _ hkw, Below.heap_setCell _ _ _ _ hkw, Below.heap_setCell _ _ _ _ hkw, Below.heap_setCell _ _ _ _ hkw]
        exact RA.fo k hk ht
end Go.Proofs.Ytefdnjhhaejgbaa
