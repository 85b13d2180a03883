/- A part of the proof of MachineFeeds: T Bd Sr Ss Be. No condition. -/
import Derived.Test.YtefdnjhhaejgbaaGf04
import Derived.Test.YtefdnjhhaejgbaaGf13
import Derived.Test.YtefdnjhhaejgbaaGf14
set_option linter.unusedSimpArgs false
set_option linter.unusedVariables false
namespace Go.Proofs.Ytefdnjhhaejgbaa
open Go.RowKit
set_option linter.unusedVariables false
theorem Try.elInt : ElT Try.prog 74 3 (.int .i64 0) 1 8 := ⟨Try.underlying74, by kernel_rfl, rfl, by decide, by decide⟩
theorem run_make_int (n : Nat) (hn : n ≤ 65536) (w : World) :
    (Instr.makeSlice 74 (.int .i64 (n : Int)) (.int .i64 (n : Int))).run Try.prog w = .ok (.slice (some ⟨w.heap.size, 0, none⟩) n n) (w.alloc (.cells (natsV (List.replicate n 0)).toArray 3)) := by
  obtain ⟨i, hi, hz, h2, h3⟩ := info_parts Try.elInt.info
  rw [run_make w _ _ i (.int .i64 0) Try.underlying74 hi hz .i64 .i64 n n (by omega) (by omega) (by rw [h3]; omega) (by omega)]
  simp only [Int.toNat_natCast, h2, Nat.mul_one, natsV, List.map_replicate]
  have : (Value.int .i64 0).cells = #[.int .i64 0] := rfl
  rw [this, madeCells_one]
  rfl
theorem zero_ints (w : World) : (zeroValue 74).run Try.prog w = .ok (.slice none 0 0) w := by kernel_rfl
structure PtAt (w : World) (cd : List RI) (k : Nat) (s : PtS) (o : List NB) (τ : Nat → Nat) (es : Array MapEntry) (c : Nat) (v : Value) (wr : World) : Prop where
  mem : PtMem w s τ es c v wr
  le : k ≤ cd.length
  run : ptRun cd (cd.length - k) k s = ptRun cd cd.length 0 (ptInit cd.length)
  nest : (nestRun (cd.drop k) k o).2 = false
  len : o.length = s.opn.length
  l8 : o.length ≤ 8
  opn : ∀ x ∈ s.opn, x < k
  lvs : ∀ q, ∀ x ∈ s.lv q, x < k
  lvl : ∀ q, (s.lv q).length ≤ k
  out : s.out.length = cd.length
def PtRel (w : World) (cd : List RI) (u i : Value) (wr : World) : Prop :=
  ∃ (k : Nat) (s : PtS) (o : List NB) (τ : Nat → Nat) (es : Array MapEntry) (c : Nat) (va : Option Addr) (vc : Nat), i = .int .i64 (k : Int) ∧ u = .slice va s.opn.length vc ∧ PtAt w cd k s o τ es c (.slice va s.opn.length vc) wr
theorem PtAt.rel {w : World} {cd : List RI} {k : Nat} {s : PtS} {o : List NB} {τ : Nat → Nat} {es : Array MapEntry} {c : Nat} {v i : Value} {wr : World} (hi : i = .int .i64 ((k : Nat) : Int)) (h : PtAt w cd k s o τ es c v wr) : PtRel w cd v i wr := by
  subst hi
  obtain ⟨va, vc, rfl⟩ : ∃ va vc, v = .slice va s.opn.length vc := by
    rcases h.mem.own.2 with ⟨h1, h2⟩ | ⟨g, cc, cur, h1, _⟩
    · exact ⟨none, 0, by rw [h1, h2]⟩
    · exact ⟨_, cc, h1⟩
  exact ⟨k, s, o, τ, es, c, va, vc, rfl, rfl, h⟩
theorem nest_some {cd : List RI} {k : Nat} (hk : k < cd.length) {o : List NB} (h : (nestRun (cd.drop k) k o).2 = false) : ∃ o', nestStep (cd.getD k default).op o = some o' ∧ (nestRun (cd.drop (k + 1)) (k + 1) o').2 = false := by
  cases hs : nestStep (cd.getD k default).op o with
  | none => rw [nest_bad cd k hk o hs] at h; cases h
  | some o' => rw [nest_next cd k hk o o' hs] at h; exact ⟨o', rfl, h⟩
theorem pt_step {cd : List RI} {k : Nat} {s : PtS} (hk : k < cd.length) (h : ptRun cd (cd.length - k) k s = ptRun cd cd.length 0 (ptInit cd.length)) : ptRun cd (cd.length - (k + 1)) (k + 1) (ptStep cd k s) = ptRun cd cd.length 0 (ptInit cd.length) := by
  rw [← h, show cd.length - k = (cd.length - (k + 1)) + 1 by omega, ptRun]
theorem PtAt.next {w : World} {cd : List RI} {k : Nat} {s s' : PtS} {o o' : List NB} {τ τ' : Nat → Nat} {es es' : Array MapEntry} {c c' : Nat} {v v' : Value} {wr wr' : World} (h : PtAt w cd k s o τ es c v wr) (hk : k < cd.length)
    (hs : ptStep cd k s = s') (ho : nestStep (cd.getD k default).op o = some o') (hn : (nestRun (cd.drop (k + 1)) (k + 1) o').2 = false) (hl : o'.length = s'.opn.length) (hm : PtMem w s' τ' es' c' v' wr')
    (h1 : ∀ x ∈ s'.opn, x < k + 1) (h2 : ∀ q, ∀ x ∈ s'.lv q, x < k + 1) (h3 : ∀ q, (s'.lv q).length ≤ k + 1) : PtAt w cd (k + 1) s' o' τ' es' c' v' wr' :=
  ⟨hm, hk, by rw [← hs]; exact pt_step hk h.run, hn, hl, nestStep_len ho h.l8, h1, h2, h3, by rw [← hs, ptStep_length]; exact h.out⟩
theorem PtMem.top {w : World} {s : PtS} {l : List Nat} {p : Nat} (hs : s.opn = l ++ [p]) {τ : Nat → Nat} {es : Array MapEntry} {c : Nat} {va : Option Addr} {vc n : Nat} {wr : World} (h : PtMem w s τ es c (.slice va n vc) wr) (hn : n = l.length + 1) :
    ∃ g, va = some ⟨g, 0, none⟩ ∧ l.length + 1 ≤ vc ∧ g ≠ w.heap.size ∧ g ≠ w.heap.size + 1 ∧ g < wr.heap.size ∧ (∀ j, j < l.length + 1 → wr.cell? ⟨g, j, none⟩ = some (.int .i64 ((l ++ [p]).getD j 0 : Nat))) ∧ (∀ j, wr.frozen? ⟨g, j, none⟩ = false) := by
  subst hn
  have hown := h.own
  rw [hs, List.length_append, List.length_singleton] at hown
  obtain ⟨g, rfl⟩ : ∃ g, va = some ⟨g, 0, none⟩ := by
    rcases hown.2 with ⟨h1, h2⟩ | ⟨g, cc, cur, h1, _⟩
    · simp at h2
    · simp only [Value.slice.injEq] at h1; exact ⟨g, h1.1⟩
  have ht := h.tv g rfl
  have h1 := h.to
  have h2 := h.tm
  refine ⟨g, rfl, own_cap hown, fun e => by rw [e] at ht; omega, fun e => by rw [e] at ht; omega, (hown.lt g rfl).2, fun j hj => ?_, fun j => hown.frozenAt j⟩
  rw [hown.cellAt j (by omega), natsV_get (by simp; omega)]
theorem PtMem.outCell {w : World} {s : PtS} {τ : Nat → Nat} {es : Array MapEntry} {c : Nat} {v : Value} {wr : World} (h : PtMem w s τ es c v wr) {p : Nat} (hp : p < s.out.length) : wr.cell? ⟨w.heap.size, p, none⟩ = some (.int .i64 (s.out.getD p 0 : Nat)) := by
  rw [h.out.cell, natsV_get hp]
theorem PtMem.cast {w : World} {s s' : PtS} {τ : Nat → Nat} {es : Array MapEntry} {c : Nat} {v v' : Value} {wr : World} (h : PtMem w s τ es c v wr) (hs : s = s') (hv : v = v') : PtMem w s' τ es c v' wr := by subst hs; subst hv; exact h
theorem opn_snoc {o o' : List NB} {l : List Nat} {op : Int} (ho : nestStep op o = some o') (hop : op = 28 ∨ op = 31) (hl : o.length = l.length) : ∃ m p, l = m ++ [p] ∧ (op = 28 → o'.length = m.length + 1) ∧ (op = 31 → o'.length = m.length) := by
  rcases nil_or_snoc l with rfl | ⟨m, p, rfl⟩
  · have : o = [] := by simpa using hl
    subst this
    rcases hop with rfl | rfl <;> simp [nestStep] at ho
  · refine ⟨m, p, rfl, fun h => ?_, fun h => ?_⟩
    · subst h
      simp [nestStep] at ho
      obtain ⟨_, rfl⟩ := ho
      simp at hl ⊢
      omega
    · subst h
      simp [nestStep] at ho
      obtain ⟨_, rfl⟩ := ho
      simp at hl ⊢
      omega
theorem lastLoop_succ (cd : List RI) (l : List Nat) (m : Nat) (hm : m < l.length) : lastLoop cd (l.take (m + 1)) = if (cd.getD (l.getD m 0) default).op = 29 then some (l.getD m 0) else lastLoop cd (l.take m) := by
  rw [List.take_succ_eq_append_getElem hm]
  have : l.getD m 0 = l[m] := by rw [List.getD_eq_getElem?_getD, List.getElem?_eq_getElem hm]; rfl
  rw [this]
  simp only [lastLoop, List.reverse_append, List.reverse_cons, List.reverse_nil, List.nil_append, List.cons_append, List.find?_cons]
  split
  · rename_i h; rw [if_pos (by simpa using h)]
  · rename_i h; rw [if_neg (by simpa using h)]
theorem lastLoop_zero (cd : List RI) (l : List Nat) : lastLoop cd (l.take 0) = none := by simp [lastLoop]
theorem PtMem.opnCell {w : World} {s : PtS} {τ : Nat → Nat} {es : Array MapEntry} {c : Nat} {va : Option Addr} {vc n : Nat} {wr : World} (h : PtMem w s τ es c (.slice va n vc) wr) (hn : n = s.opn.length) {m : Nat} (hm : m < s.opn.length) :
    ∃ g, va = some ⟨g, 0, none⟩ ∧ g < wr.heap.size ∧ wr.cell? ⟨g, m, none⟩ = some (.int .i64 (s.opn.getD m 0 : Nat)) := by
  subst hn
  have hown := h.own
  obtain ⟨g, rfl⟩ : ∃ g, va = some ⟨g, 0, none⟩ := by
    rcases hown.2 with ⟨h1, h2⟩ | ⟨g, cc, cur, h1, _⟩
    · omega
    · simp only [Value.slice.injEq] at h1; exact ⟨g, h1.1⟩
  exact ⟨g, rfl, (hown.lt g rfl).2, by rw [hown.cellAt m (by omega), natsV_get hm]⟩
def LeaveCls (g m p mb : Nat) (es : Array MapEntry) (c : Nat) (x : World) : Prop := x.cell? ⟨g, m, none⟩ = some (.int .i64 (p : Int)) ∧ x.heap[mb]? = some (.map es c)
theorem LeaveCls.below {g m p mb : Nat} {es : Array MapEntry} {c : Nat} {x y : World} (h : LeaveCls g m p mb es c x) (hb : Below x.heap.size x y) : LeaveCls g m p mb es c y :=
  ⟨by rw [hb.cell (p := ⟨g, m, none⟩) (World.block_lt_of_cell? x _ h.1)]; exact h.1, by rw [hb.block _ (Array.getElem?_eq_some_iff.1 h.2).1]; exact h.2⟩
theorem LeaveCls.grown {g m p mb : Nat} {es : Array MapEntry} {c : Nat} {x y : World} {row : Option Nat} (h : LeaveCls g m p mb es c x) (hg : x.grownBy y row) (h1 : some g ≠ row) (h2 : some mb ≠ row) : LeaveCls g m p mb es c y :=
  ⟨by rw [World.cell?_of_block (hg.block g (World.block_lt_of_cell? x _ h.1) h1)]; exact h.1, by rw [hg.block _ (Array.getElem?_eq_some_iff.1 h.2).1 h2]; exact h.2⟩
set_option maxRecDepth 100000 in
set_option maxHeartbeats 1000000 in
theorem partners_any (a : Option Addr) (cap : Nat) (cd : List RI) (w : World) (hrow : RowB w.heap.size w 5 a cd.length fun i j => (cd.getD i default).cell j) (hmax : cd.length ≤ 16384) (hnest : (nestRun cd 0 []).2 = false) :
    Calls Try.prog 34 #[.slice a cd.length cap] w fun e w' => e = .returned (.slice (some ⟨w.heap.size, 0, none⟩) cd.length cd.length) ∧ Blk w' w.heap.size (natsV (ptOf cd)) 3 ∧ Below w.heap.size w w' := by
  have mk := run_make_int cd.length (by omega)
  have hmm := fun (t : TypeId) (w : World) => run_makeMap (P := Try.prog) t w
  have HR := Lib.hid hrow
  have start : ∀ wr, wr = (w.alloc (.cells (natsV (List.replicate cd.length 0)).toArray 3)).alloc (.map #[] 0) → PtRel w cd (.slice none 0 0) (.int .i64 0) wr := by
    rintro wr rfl
    refine PtAt.rel (k := 0) (s := ptInit cd.length) (o := []) (τ := fun x => if x = w.heap.size then 1 else 3) (es := #[]) (c := 0) rfl ⟨⟨?_, heap_new2 _ _ _, World.ownsRow_nil _ _ _ _, rfl, fun q => .inl ⟨rfl, rfl⟩, if_pos rfl, by rw [if_neg (by omega)], fun g hg => by simp [Value.ownBlock] at hg, ((Below.refl _ _).alloc (by simp) _).alloc (by simp) _⟩, by omega, rfl, by simpa using hnest, rfl, by simp, fun x hx => by simp [ptInit] at hx, fun q x hx => by simp [ptInit] at hx, fun q => by simp [ptInit], by simp [ptInit]⟩
    unfold Blk
    rw [Below.heap_alloc _ _ _ (by simp)]
    exact heap_new1 _ _
  have HST := Lib.hid start
  clear hrow start hnest
  go_enter Try.func34, Try.ntmps34
  go_wp2_with fail
  go_loopw [4, 18] (fun v i wr => PtRel w cd v i wr) (fun _ i _ => cd.length - (intOf i).toNat)
  case atStart => exact HST.out _ rfl
  case round =>
    obtain ⟨k, s, o, τ, es, c, va, vc, rfl, rfl, PA⟩ := hrel
    have hkl := PA.le
    clear HST mk hmm
    by_cases hk : k < cd.length
    · obtain ⟨b, off, rfl, hb, hc⟩ := HR.out k hk
      have hk' := nat_cast_ltQ hk
      have hbw : b < wr.heap.size := Nat.lt_of_lt_of_le hb PA.mem.bel.size
      obtain ⟨o', ho', hn'⟩ := nest_some hk PA.nest
      have hc2 : ∀ j, j < 5 → wr.cell? ⟨b, off + k * 5 + j, none⟩ = some ((cd.getD k default).cell j) := fun j hj => by rw [PA.mem.bel.cell (p := ⟨b, off + k * 5 + j, none⟩) hb]; exact hc j hj
      obtain ⟨ins, hins⟩ : ∃ ins, cd.getD k default = ins := ⟨_, rfl⟩
      rw [hins] at hc2
      obtain ⟨op, to, ra, rb, arg⟩ := ins
      have k0 : wr.cell? ⟨b, off + k * 5, none⟩ = some (.int .i64 op) := hc2 0 (by omega)
      have k1 : wr.cell? ⟨b, off + k * 5 + 1, none⟩ = some (.int .i64 to) := hc2 1 (by omega)
      have k2 : wr.cell? ⟨b, off + k * 5 + 1 + 1, none⟩ = some (.int .i64 ra) := hc2 2 (by omega)
      have k3 : wr.cell? ⟨b, off + k * 5 + 1 + 1 + 1, none⟩ = some (.int .i64 rb) := hc2 3 (by omega)
      have k4 : wr.cell? ⟨b, off + k * 5 + 1 + 1 + 1 + 1, none⟩ = some (.int .u32 arg) := hc2 4 (by omega)
      clear hc2 hc
      have hop : (cd.getD k default).op = op := by rw [hins]
      have HOP := Lib.hid hop
      have HO := Lib.hid (And.intro ho' hn')
      have HPA := Lib.hid PA
      have hbz : Below wr.heap.size wr (wr.alloc (.cells #[.int .i64 op, .int .i64 to, .int .i64 ra, .int .i64 rb, .int .u32 arg] 61)) := (Below.refl _ _).alloc (Nat.le_refl _) _
      have HZ := Lib.hid (PA.mem.below hbz)
      have hopl : s.opn.length ≤ 8 := by rw [← PA.len]; exact PA.l8
      have hws := PA.mem.bel.size
      clear hop hins ho' hn' PA hbz
      by_cases o27 : op = 27 ∨ op = 29
      · have hs : ptStep cd k s = { s with opn := s.opn ++ [k] } := by unfold ptStep; simp only [HOP.out]; rw [if_pos o27]
        have hl : o'.length = (s.opn ++ [k]).length := by
          have := HO.out.1
          rw [HOP.out] at this
          have e1 := HPA.out.len
          unfold nestStep at this
          rcases o27 with rfl | rfl <;> simp at this <;> (obtain ⟨_, rfl⟩ := this; simp [e1])
        have HS := Lib.hid (And.intro hs hl)
        clear hs hl
        rcases o27 with rfl | rfl
        all_goals
          go_wp2_with (at_builtin; refine wpList_app1 Try.elInt rfl _ _ rfl w.heap.size (.slice va s.opn.length vc) s.opn.length _ rfl (HZ.out.own.alloc _) (wr.heap.size + 1) [.int .i64 (k : Int)] (0, 0) rfl (heap_new2 wr _ _) rfl (by simp [Value.oneCell']) (by omega) (by simp; omega) ?_)
          intro g' c' w' hown' hgrow hat hlt
          have PX := HPA.out.next hk HS.out.1 HO.out.1 HO.out.2 HS.out.2 (HZ.out.push rfl ((Below.refl _ _).alloc (Nat.le_refl _) _) hown' hgrow (by simpa using hat))
            (fun x hx => by simp only [List.mem_append, List.mem_singleton] at hx; rcases hx with hx | hx; have := HPA.out.opn x hx; omega; omega) (fun q x hx => Nat.lt_succ_of_lt (HPA.out.lvs q x hx)) (fun q => Nat.le_succ_of_le (HPA.out.lvl q))
          have HX := Lib.hid PX
          clear hown' hgrow hat hlt PX
          go_wp2
          go_roundw
          case rel => exact PtAt.rel (by simp) HX.out
          case measure => simp [intOf]; omega
      have n27 : ¬ op = 27 := fun e => o27 (.inl e)
      have n29 : ¬ op = 29 := fun e => o27 (.inr e)
      have q27 : (op == 27) = false := by simpa using n27
      have q29 : (op == 29) = false := by simpa using n29
      clear o27
      by_cases o28 : op = 28
      · subst o28
        obtain ⟨l, p, hl, hl28, _⟩ := opn_snoc HO.out.1 (.inl HOP.out) HPA.out.len
        have hll := hl28 HOP.out
        have hlen : s.opn.length = l.length + 1 := by rw [hl]; simp
        obtain ⟨g, rfl, hcap, hg1, hg2, hgl, htc, hfz⟩ := HPA.out.mem.top hl hlen
        have hpk : p < k := HPA.out.opn p (by rw [hl]; simp)
        have t0 : wr.cell? ⟨g, l.length, none⟩ = some (.int .i64 (p : Int)) := by have := htc l.length (by omega); simpa using this
        have z0 := hfz l.length
        have c0 := HPA.out.mem.outCell (p := p) (by rw [HPA.out.out]; omega)
        have y0 := HPA.out.mem.out.frozen p
        have hwl : w.heap.size < wr.heap.size := HPA.out.mem.out.lt
        have hp' : (0 : Int) ≤ (p : Int) ∧ (p : Int) < (cd.length : Int) := by omega
        have hs : ptStep cd k s = ⟨s.out.set p k, l ++ [k], s.lv⟩ := by unfold ptStep; simp only [HOP.out]; simp [hl]
        have pm : PtMem w ⟨s.out.set p k, l ++ [k], s.lv⟩ τ es c (.slice (some ⟨g, 0, none⟩) (l.length + 1) vc) (((wr.setCell ⟨w.heap.size, p, none⟩ (.int .i64 (k : Int))).setCell ⟨g, l.length, none⟩ (.int .i64 (k : Int)))) :=
          ((HPA.out.mem.setOut p k).setTop l.length k hg1 hg2).cast (by simp [hl]) (by simp [hl])
        have PX := HPA.out.next hk hs HO.out.1 HO.out.2 (by rw [hll]; simp) (pm.below ((Below.refl _ _).alloc (Nat.le_refl _) (.cells #[.int .i64 28, .int .i64 to, .int .i64 ra, .int .i64 rb, .int .u32 arg] 61)))
          (fun x hx => by simp only [List.mem_append, List.mem_singleton] at hx; rcases hx with hx | hx; have := HPA.out.opn x (by rw [hl]; simp [hx]); omega; omega) (fun q x hx => Nat.lt_succ_of_lt (HPA.out.lvs q x hx)) (fun q => Nat.le_succ_of_le (HPA.out.lvl q))
        have HX := Lib.hid PX
        clear PX pm hs htc hfz hl hl28 hll
        rw [hlen]
        have hlb : l.length + 1 ≤ 8 := by omega
        clear hlen
        go_wp2
        go_roundw
        case rel => exact PtAt.rel (by simp) HX.out
        case measure => simp [intOf]; omega
      have q28 : (op == 28) = false := by simpa using o28
      by_cases o30 : op = 30
      · subst o30
        have ho : o'.length = o.length := by
          have := HO.out.1
          rw [HOP.out] at this
          simp [nestStep] at this
          obtain ⟨_, rfl⟩ := this
          rfl
        have hs : ptStep cd k s = match lastLoop cd s.opn with | some p => { s with lv := fun q => if q = p then s.lv q ++ [k] else s.lv q } | none => s := by
          unfold ptStep
          simp only [HOP.out]
          rw [if_neg (by decide), if_neg (by decide), if_pos trivial]
          cases lastLoop cd s.opn <;> rfl
        have hsk : ∀ wz, PtMem w s τ es c (.slice va s.opn.length vc) wz → lastLoop cd s.opn = none → PtRel w cd (.slice va s.opn.length vc) (.int .i64 ((k : Int) + 1)) wz := fun wz hz hnone =>
          PtAt.rel (by simp) (HPA.out.next hk (s' := s) (by rw [hs, hnone]) HO.out.1 HO.out.2 (by rw [ho]; exact HPA.out.len) hz (fun x hx => Nat.lt_succ_of_lt (HPA.out.opn x hx)) (fun q x hx => Nat.lt_succ_of_lt (HPA.out.lvs q x hx)) (fun q => Nat.le_succ_of_le (HPA.out.lvl q)))
        have hyes : ∀ p wz τ' es' c', PtMem w { s with lv := fun q => if q = p then s.lv q ++ [k] else s.lv q } τ' es' c' (.slice va s.opn.length vc) wz → lastLoop cd s.opn = some p → PtRel w cd (.slice va s.opn.length vc) (.int .i64 ((k : Int) + 1)) wz := fun p wz τ' es' c' hz hsome =>
          PtAt.rel (by simp) (HPA.out.next hk (s' := { s with lv := fun q => if q = p then s.lv q ++ [k] else s.lv q }) (by rw [hs, hsome]) HO.out.1 HO.out.2 (by rw [ho]; exact HPA.out.len) hz (fun x hx => Nat.lt_succ_of_lt (HPA.out.opn x hx))
            (fun q x hx => by
              simp only at hx
              split at hx
              · simp only [List.mem_append, List.mem_singleton] at hx
                rcases hx with hx | hx
                · exact Nat.lt_succ_of_lt (HPA.out.lvs q x hx)
                · omega
              · exact Nat.lt_succ_of_lt (HPA.out.lvs q x hx))
            (fun q => by
              have := HPA.out.lvl q
              simp only
              split
              · simp; omega
              · omega))
        have HSK := Lib.hid hsk
        have HYES := Lib.hid hyes
        have HOPN := Lib.hid HPA.out.opn
        have HLVL := Lib.hid HPA.out.lvl
        clear hs hsk hyes ho
        go_upto_region 15 with (fail)
        refine wp_gen _ HZ.out ?_
        intro Z PZ
        have HPZ := Lib.hid PZ
        have hbZ : b < Z.heap.size := Nat.lt_of_lt_of_le hb PZ.bel.size
        clear k0 k1 k2 k3 k4 HZ HPA hbw PZ
        go_wp2_with fail
        go_loop [8] (fun i => ∃ j : Nat, j ≤ s.opn.length ∧ i = .int .i64 ((j : Int) - 1) ∧ Hid (lastLoop cd s.opn = lastLoop cd (s.opn.take j))) (fun i => (intOf i + 1).toNat)
        case atStart => exact ⟨s.opn.length, Nat.le_refl _, rfl, Lib.hid (by rw [List.take_length])⟩
        case round =>
          obtain ⟨j, hj, rfl, hL⟩ := hrel
          cases j with
          | zero =>
            have HX := Lib.hid (HSK.out Z HPZ.out (hL.out.trans (lastLoop_zero _ _)))
            clear hL
            go_wp2
            go_roundw
            case rel => exact HX.out
            case measure => simp [intOf]; omega
          | succ m =>
            have em : (((m + 1 : Nat) : Int) - 1) = (m : Int) := by omega
            rw [em]
            clear em
            have hm : m < s.opn.length := by omega
            have hm' := nat_cast_ltQ hm
            obtain ⟨g, hva, hgl, hgc⟩ := HPZ.out.opnCell rfl hm
            have hls := lastLoop_succ cd s.opn m hm
            obtain ⟨p, hp⟩ : ∃ p, s.opn.getD m 0 = p := ⟨_, rfl⟩
            have hpk : p < k := HOPN.out p (by rw [← hp, List.getD_eq_getElem?_getD, List.getElem?_eq_getElem hm]; exact List.getElem_mem hm)
            rw [hp] at hgc hls
            obtain ⟨b1, off1, hb1, _, hc1⟩ := HR.out p (by omega)
            simp only [Option.some.injEq, Addr.mk.injEq] at hb1
            obtain ⟨rfl, rfl, _⟩ := hb1
            obtain ⟨ip, hip⟩ : ∃ ip, cd.getD p default = ip := ⟨_, rfl⟩
            have cp : Z.cell? ⟨b, off + p * 5, none⟩ = some (.int .i64 ip.op) := by
              have := hc1 0 (by omega)
              simp only [hip] at this
              rw [HPZ.out.bel.cell (p := ⟨b, off + p * 5, none⟩) hb]; exact this
            have hp' : (0 : Int) ≤ (p : Int) ∧ (p : Int) < (cd.length : Int) := by omega
            obtain ⟨opp, hopp⟩ : ∃ opp, ip.op = opp := ⟨_, rfl⟩
            rw [hopp] at cp
            have HLS := Lib.hid (show lastLoop cd s.opn = if opp = 29 then some p else lastLoop cd (s.opn.take m) by rw [hL.out, hls, hip, hopp])
            have HVA := Lib.hid hva
            clear hc1 hip hopp hls hL hp
            by_cases h29 : opp = 29
            · subst h29
              subst hva
              have hsome : lastLoop cd s.opn = some p := by rw [HLS.out, if_pos rfl]
              have HSO := Lib.hid hsome
              obtain ⟨ls, hls⟩ : ∃ ls, s.lv p = ls := ⟨_, rfl⟩
              obtain ⟨lvv, hlvv, hlvo, hlv4⟩ : ∃ lvv, (atInt (p : Int) es.toList).getD (.slice none 0 0) = lvv ∧ Z.ownsRow w.heap.size 3 1 lvv ls.length (natsV ls) ∧
                  ((s.lv p = [] ∧ lvv = .slice none 0 0) ∨ (∃ g cc, lvv = .slice (some ⟨g, 0, none⟩) ls.length cc ∧ τ g = 10 + p ∧ w.heap.size ≤ g)) := by
                rcases HPZ.out.lvs p with ⟨h1, h2⟩ | ⟨gl, cl, h1, h2, h3⟩
                · exact ⟨_, rfl, by rw [h2, ← hls, h1]; exact World.ownsRow_nil _ _ _ _, .inl ⟨h1, by rw [h2]; rfl⟩⟩
                · rw [hls] at h1 h2
                  exact ⟨_, rfl, by rw [h1]; exact h2, .inr ⟨gl, cl, by rw [h1]; rfl, h3, (h2.lt gl rfl).1⟩⟩
              have hll : ls.length ≤ k := by rw [← hls]; exact HLVL.out p
              have HLV := Lib.hid (And.intro hls (And.intro hlvo hlv4))
              have hcls : LeaveCls g m p (w.heap.size + 1) es c Z := ⟨hgc, HPZ.out.map⟩
              have _inst : Nonempty (CWorld (LeaveCls g m p (w.heap.size + 1) es c)) := ⟨⟨Z, hcls⟩⟩
              have p0 : ∀ q : CWorld (LeaveCls g m p (w.heap.size + 1) es c), q.w.cell? ⟨g, m, none⟩ = some (.int .i64 (p : Int)) := fun q => q.h.1
              have p1 : ∀ q : CWorld (LeaveCls g m p (w.heap.size + 1) es c), (Instr.lookup 93 (.map (some (w.heap.size + 1))) (.int .i64 (p : Int)) false).run Try.prog q.w = .ok lvv q.w := fun q => by
                rw [← hlvv]
                exact run_look_int (P := Try.prog) (T := 93) Try.underlying93 Try.underlying3 q.w (w.heap.size + 1) es c q.h.2 (p : Int) HPZ.out.keys (.slice none 0 0) (zero_ints _)
              have HCL := Lib.hid hcls
              clear hlvv hls hlvo hlv4 hsome hcls
              have hZs : w.heap.size ≤ Z.heap.size := HPZ.out.bel.size
              go_wp2_with fail
              refine wp_region_mix (Cls (LeaveCls g m p (w.heap.size + 1) es c)) [4, 9, 10] [0, 1, 2, 3, 5, 6, 7, 8, 11] [(2, 0), (2, 1), (2, 2), (2, 3), (2, 5), (2, 6), (2, 7), (2, 8), (2, 11), (1, 4), (1, 9), (1, 10), (0, 12), (0, 13), (0, 14)] (by kernel_rfl) (by kernel_rfl) (fun c a d v w h => by cases d <;> exact h) ⟨⟨Z.drew, HCL.out.1, HCL.out.2⟩, rfl⟩ ?_
              simp only [getPlan, List.filterMap_cons, List.filterMap_nil, List.getElem?_toArray, List.getElem?_cons_succ, List.getElem?_cons_zero, Option.map_some]
              repeat ((first | refine wpPlan_pure (fun K hK => ?_) | refine wpPlan_float (fun K hK => ?_)); go_simp; refine hK _ ?_; clear hK K)
              clear p0 p1
              have hbn : Below Z.heap.size Z (Z.alloc (.cells #[.int .i64 (k : Int)] 3)).drew := ((Below.refl _ _).alloc (Nat.le_refl _) _).drew
              have HBN := Lib.hid (And.intro hbn (heap_new1 Z (.cells #[.int .i64 (k : Int)] 3)))
              clear hbn
              refine wpPlan_keep ?_
              go_wp2_with fail
              refine ⟨⟨CWorld.mk _ (HCL.out.below HBN.out.1), rfl⟩, ?_⟩
              refine wpPlan_gen (fun y => Below Z.heap.size Z y ∧ y.heap[Z.heap.size]? = some (.cells [.int .i64 (k : Int)].toArray 3 (0, 0))) HBN.out ?_
              rintro y ⟨hby, hyk⟩
              clear HBN
              have hyo := HLV.out.2.1.kept (grownBy_of_below hby none) (by cases hv : lvv.ownBlock <;> simp)
              have hys := hby.size
              refine wpPlan_keep ?_
              refine wpList_app1 Try.elInt rfl _ _ rfl w.heap.size lvv ls.length _ rfl hyo Z.heap.size [.int .i64 (k : Int)] (0, 0) rfl hyk rfl (by simp [Value.oneCell']) (by omega) (by omega) ?_
              intro g' c' w6 hown6 hg6 hat6 hlt6
              have htag : ∀ x, lvv.ownBlock = some x → τ x = 10 + p := fun x hx => by
                rcases HLV.out.2.2 with ⟨_, h2⟩ | ⟨g2, cc2, h2, h3, _⟩
                · rw [h2] at hx; simp [Value.ownBlock] at hx
                · rw [h2] at hx; simp only [Value.ownBlock, Option.some.injEq] at hx; subst hx; exact h3
              have hng : some g ≠ lvv.ownBlock := fun e => by have h1 := htag g e.symm; have h2 := HPZ.out.tv g rfl; omega
              have hnm : some (w.heap.size + 1) ≠ lvv.ownBlock := fun e => by have h1 := htag _ e.symm; have h2 := HPZ.out.tm; omega
              have hcl6 := (HCL.out.below hby).grown hg6 hng hnm
              obtain ⟨es', c2, hrun, hkeys, hats⟩ := run_update_int (P := Try.prog) (T := 93) Try.underlying93 Try.underlying3 w6 (w.heap.size + 1) es c hcl6.2 (p : Int) (.slice (some ⟨g', 0, none⟩) (ls.length + 1) c') HPZ.out.keys
              have hls := HLV.out.1
              have PL := HPZ.out.leave (k := k) (p := p) (n := ls.length) (lv := lvv) (c' := c2) (by rw [hls]) hby HLV.out.2.2 (by rw [hls]; exact hown6) hg6 hat6 hkeys hats
              have HX := Lib.hid (HYES.out p _ _ _ _ PL HSO.out)
              clear PL hls hats hkeys htag hown6 hg6 hat6 hlt6
              have HC6 := Lib.hid hcl6
              clear hcl6 hng hnm hyo hyk hby
              go_wp2_with fail
              refine ⟨⟨CWorld.mk _ HC6.out, rfl⟩, ?_⟩
              refine wpPlan_tail (by kernel_rfl) ?_
              simp only [List.map_cons, List.map_nil]
              go_wp2
              go_roundw
              case rel => exact HX.out
              case measure => simp [intOf]; omega
            · have q29p : (opp == 29) = false := by simpa using h29
              subst hva
              go_wp2
              go_round
              case rel => exact ⟨m, by omega, rfl, Lib.hid (by rw [HLS.out, if_neg h29])⟩
              case measure => first | (simp [intOf]; done) | (simp [intOf]; omega)
      have q30 : (op == 30) = false := by simpa using o30
      by_cases o31 : op = 31
      · subst o31
        obtain ⟨l, p, hl, _, hl31⟩ := opn_snoc HO.out.1 (.inr HOP.out) HPA.out.len
        have hll := hl31 HOP.out
        have hlen : s.opn.length = l.length + 1 := by rw [hl]; simp
        obtain ⟨g, rfl, hcap, hg1, hg2, hgl, htc, hfz⟩ := HPA.out.mem.top hl hlen
        have hpk : p < k := HPA.out.opn p (by rw [hl]; simp)
        have t0 : wr.cell? ⟨g, l.length, none⟩ = some (.int .i64 (p : Int)) := by have := htc l.length (by omega); simpa using this
        have c0 := HPA.out.mem.outCell (p := p) (by rw [HPA.out.out]; omega)
        have y0 := HPA.out.mem.out.frozen p
        have hwl : w.heap.size < wr.heap.size := HPA.out.mem.out.lt
        have hp' : (0 : Int) ≤ (p : Int) ∧ (p : Int) < (cd.length : Int) := by omega
        have hcapI : (l.length : Int) ≤ (vc : Int) ∧ ¬ vc = 0 := by omega
        have hs : ptStep cd k s = ⟨setAll k (s.lv p) (s.out.set p k), l, s.lv⟩ := by unfold ptStep; simp only [HOP.out]; simp [hl]
        have hm0 := HPA.out.mem
        rw [hlen] at hm0
        have pm : PtMem w ⟨s.out.set p k, l, s.lv⟩ τ es c (.slice (some ⟨g, 0, none⟩) l.length vc) (wr.setCell ⟨w.heap.size, p, none⟩ (.int .i64 (k : Int))) := PtMem.pop (s := ⟨s.out.set p k, s.opn, s.lv⟩) hl (hm0.setOut p k)
        have pmz := pm.below ((Below.refl _ _).alloc (Nat.le_refl _) (.cells #[.int .i64 31, .int .i64 to, .int .i64 ra, .int .i64 rb, .int .u32 arg] 61))
        have HP := Lib.hid pmz
        have nxt : ∀ wz, PtMem w ⟨setAll k (s.lv p) (s.out.set p k), l, s.lv⟩ τ es c (.slice (some ⟨g, 0, none⟩) l.length vc) wz → PtRel w cd (.slice (some ⟨g, 0, none⟩) l.length vc) (.int .i64 ((k : Int) + 1)) wz := fun wz hz =>
          PtAt.rel (by simp) (HPA.out.next hk hs HO.out.1 HO.out.2 hll hz (fun x hx => Nat.lt_succ_of_lt (HPA.out.opn x (by rw [hl]; simp [hx]))) (fun q x hx => Nat.lt_succ_of_lt (HPA.out.lvs q x hx)) (fun q => Nat.le_succ_of_le (HPA.out.lvl q)))
        have HNX := Lib.hid nxt
        have hlb : l.length + 1 ≤ 8 := by omega
        have HL := Lib.hid (And.intro (HPA.out.lvs p) (And.intro (HPA.out.lvl p) (show (s.out.set p k).length = cd.length by simp [HPA.out.out])))
        clear nxt pmz pm hm0 hs htc hfz hl hl31 hll
        rw [hlen]
        clear hlen
        go_upto_region 24 with (fail)
        refine wp_gen _ HP.out ?_
        intro Z PZ
        clear HP t0 c0 y0 k0 k1 k2 k3 k4
        have hzk := PZ.map
        have hlk := run_look_int (P := Try.prog) (T := 93) Try.underlying93 Try.underlying3 Z (w.heap.size + 1) es c PZ.map (p : Int) PZ.keys (.slice none 0 0) (zero_ints Z)
        rcases PZ.lvs p with ⟨hl0, ha0⟩ | ⟨gl, cl, ha0, hol, htl⟩
        · rw [ha0] at hlk
          simp only [Option.getD_none] at hlk
          have hl0' : s.lv p = [] := hl0
          have HX := Lib.hid (HNX.out Z (by rw [hl0']; exact PZ))
          clear ha0 hl0 hl0' PZ hzk
          go_wp2_with fail
          go_loop [102] (fun i => i = .int .i64 0) (fun i => 0)
          case atStart => rfl
          case round =>
            subst hrel
            go_wp2
            go_roundw
            case rel => exact HX.out
            case measure => simp [intOf]; omega
        · rw [ha0] at hlk
          simp only [Option.getD_some] at hlk
          obtain ⟨ls, hls⟩ : ∃ ls, s.lv p = ls := ⟨_, rfl⟩
          have hlk' : (Instr.lookup 93 (.map (some (w.heap.size + 1))) (.int .i64 (p : Int)) false).run Try.prog Z = .ok (.slice (some ⟨gl, 0, none⟩) ls.length cl) Z := by rw [hlk]; simp [hls]
          have HLS := Lib.hid hls
          have HPZ := Lib.hid (And.intro PZ htl)
          obtain ⟨hla, hlb2, hlc⟩ := HL.out
          rw [hls] at hla hlb2
          have HLA := Lib.hid (And.intro hla hlc)
          have hol' : Z.ownsRow w.heap.size 3 1 (.slice (some ⟨gl, 0, none⟩) ls.length cl) ls.length (natsV ls) := by have := hol; simp only [hls] at this; exact this
          have HOL := Lib.hid hol'
          clear hlk ha0 hol hol' PZ hzk htl hls hla hlc
          go_wp2_with fail
          go_loopw [102] (fun i wz => ∃ j : Nat, i = .int .i64 (j : Int) ∧ j ≤ ls.length ∧ PtMem w ⟨setAll k (ls.take j) (s.out.set p k), l, s.lv⟩ τ es c (.slice (some ⟨g, 0, none⟩) l.length vc) wz ∧ wz.ownsRow w.heap.size 3 1 (.slice (some ⟨gl, 0, none⟩) ls.length cl) ls.length (natsV ls)) (fun i _ => ls.length - (intOf i).toNat)
          case atStart => exact ⟨0, rfl, Nat.zero_le _, HPZ.out.1, HOL.out⟩
          case round =>
            obtain ⟨j, rfl, hj, PJ, OJ⟩ := hrel
            by_cases hjl : j < ls.length
            · have hj' := nat_cast_ltQ hjl
              obtain ⟨x, hx⟩ : ∃ x, ls.getD j 0 = x := ⟨_, rfl⟩
              have hxk : x < k := HLA.out.1 x (by rw [← hx, List.getD_eq_getElem?_getD, List.getElem?_eq_getElem hjl]; exact List.getElem_mem hjl)
              have cx : wr.cell? ⟨gl, j, none⟩ = some (.int .i64 (x : Int)) := by rw [OJ.cellAt j (by omega), natsV_get hjl, hx]
              have hx' : (0 : Int) ≤ (x : Int) ∧ (x : Int) < (cd.length : Int) := by omega
              have c1 := PJ.outCell (p := x) (by simp only [setAll_length]; rw [HLA.out.2]; omega)
              have y1 := PJ.out.frozen x
              have hneg : gl ≠ w.heap.size := fun e => by have h1 := HPZ.out.2; have h2 := PJ.to; rw [e] at h1; omega
              have ht : setAll k (ls.take (j + 1)) (s.out.set p k) = (setAll k (ls.take j) (s.out.set p k)).set x k := by
                rw [List.take_succ_eq_append_getElem hjl, setAll_snoc]
                have : ls[j] = x := by rw [← hx, List.getD_eq_getElem?_getD, List.getElem?_eq_getElem hjl]; rfl
                rw [this]
              have PN := PJ.setOut x k
              rw [← ht] at PN
              have ON := OJ.kept (grown_set wr ⟨w.heap.size, x, none⟩ (.int .i64 (k : Int))) (.inr (by simp only [Value.ownBlock]; intro e; exact hneg (Option.some.inj e)))
              have HN := Lib.hid (And.intro PN ON)
              clear PN ON ht PJ OJ hx
              go_wp2
              go_roundw
              case rel => exact ⟨j + 1, by simp, by omega, HN.out.1, HN.out.2⟩
              case measure => simp [intOf]; omega
            · have hjj : j = ls.length := by omega
              subst hjj
              have HX := Lib.hid (HNX.out wr (by rw [HLS.out]; rw [List.take_length] at PJ; exact PJ))
              clear PJ OJ
              go_wp2
              go_roundw
              case rel => exact HX.out
              case measure => simp [intOf]; omega
      have q31 : (op == 31) = false := by simpa using o31
      have hs : ptStep cd k s = s := by unfold ptStep; simp only [HOP.out]; simp [n27, n29, o28, o30, o31]
      have ho : o' = o := by have := HO.out.1; rw [HOP.out] at this; simpa [nestStep, n27, n29, o28, o30, o31] using this.symm
      have PX := HPA.out.next hk hs HO.out.1 HO.out.2 (by rw [ho]; exact HPA.out.len) HZ.out (fun x hx => Nat.lt_succ_of_lt (HPA.out.opn x hx)) (fun q x hx => Nat.lt_succ_of_lt (HPA.out.lvs q x hx)) (fun q => Nat.le_succ_of_le (HPA.out.lvl q))
      have HX := Lib.hid PX
      clear PX hs ho
      go_wp2
      go_roundw
      case rel => exact PtAt.rel (by simp) HX.out
      case measure => simp [intOf]; omega
    · have hkk : k = cd.length := by omega
      subst hkk
      have e : s.out = ptOf cd := by have := PA.run; simp only [Nat.sub_self, ptRun] at this; rw [this]; rfl
      have HE := Lib.hid (And.intro e PA.mem)
      clear e PA
      go_wp2
      go_ret
      exact ⟨rfl, by rw [← HE.out.1]; exact HE.out.2.out, HE.out.2.bel⟩
end Go.Proofs.Ytefdnjhhaejgbaa

namespace Go.Proofs.Ytefdnjhhaejgbaa
open Go.RowKit
set_option linter.unusedVariables false
def BY : Int := 281474976710657
def T.bd : T → Int → Int
  | .nil, n => n
  | .plain i r, n => r.bd (min (n + 1) BY)
  | .ite i a j r, n => r.bd (min (n + 1 + max (a.bd 0) 0) BY)
  | .ite2 i a x b j r, n => r.bd (min (n + 1 + max (a.bd 0) (b.bd 0)) BY)
  | .loop i a j r, n => r.bd (min (if BY / (1 + a.bd 0) < i.arg then BY else n + 1 + i.arg * (1 + a.bd 0)) BY)
theorem T.bd_range (harg : Prop) : ∀ (t : T) (n : Int), (∀ i ∈ t.flat, 0 ≤ i.arg) → 0 ≤ n ∧ n ≤ BY → 0 ≤ t.bd n ∧ t.bd n ≤ BY
  | .nil, n, _, h => h
  | .plain i r, n, hf, h => by
    simp only [bd]
    exact T.bd_range harg r _ (fun x hx => hf x (by simp [flat, hx])) (by unfold BY at *; omega)
  | .ite i a j r, n, hf, h => by
    simp only [bd]
    have ha := T.bd_range harg a 0 (fun x hx => hf x (by simp [flat, hx])) (by unfold BY; omega)
    exact T.bd_range harg r _ (fun x hx => hf x (by simp [flat, hx])) (by unfold BY at *; omega)
  | .ite2 i a x b j r, n, hf, h => by
    simp only [bd]
    have ha := T.bd_range harg a 0 (fun x hx => hf x (by simp [flat, hx])) (by unfold BY; omega)
    have hb := T.bd_range harg b 0 (fun x hx => hf x (by simp [flat, hx])) (by unfold BY; omega)
    exact T.bd_range harg r _ (fun x hx => hf x (by simp [flat, hx])) (by unfold BY at *; omega)
  | .loop i a j r, n, hf, h => by
    simp only [bd]
    have ha := T.bd_range harg a 0 (fun x hx => hf x (by simp [flat, hx])) (by unfold BY; omega)
    have hi := hf i (by simp [flat])
    have hm : 0 ≤ i.arg * (1 + a.bd 0) := Int.mul_nonneg hi (by omega)
    refine T.bd_range harg r _ (fun x hx => hf x (by simp [flat, hx])) ?_
    split <;> (unfold BY at *; omega)
structure BdAt (cd : List RI) (pt : List Nat) (k e : Nat) (t : T) : Prop where
  cd : CdAt cd k t.flat
  pt : ∀ p, k ≤ p → p < k + t.size → pt.getD p 0 = ptFn (t.pt k e) k p
theorem BdAt.plainR {cd : List RI} {pt : List Nat} {k e : Nat} {i : RI} {r : T} (h : BdAt cd pt k e (.plain i r)) : BdAt cd pt (k + 1) e r :=
  ⟨h.cd.tail, fun p h1 h2 => by rw [h.pt p (by omega) (by simp only [T.size]; omega)]; simp only [T.pt]; exact ptFn_cons _ _ _ _ (by omega)⟩
theorem BdAt.iteA {cd : List RI} {pt : List Nat} {k e : Nat} {i j : RI} {a r : T} (h : BdAt cd pt k e (.ite i a j r)) : BdAt cd pt (k + 1) e a ∧ BdAt cd pt (k + a.size + 2) e r ∧ pt.getD k 0 = k + a.size + 1 ∧ cd.getD (k + a.size + 1) default = j := by
  have hc := h.cd
  simp only [T.flat] at hc
  have hcj := hc.tail.right
  rw [a.flat_length] at hcj
  have hal := a.pt_length (k + 1) e
  refine ⟨⟨hc.tail.left, fun p h1 h2 => ?_⟩, ⟨?_, fun p h1 h2 => ?_⟩, ?_, ?_⟩
  · rw [h.pt p (by omega) (by simp only [T.size]; omega)]; simp only [T.pt]; rw [ptFn_cons _ _ _ _ (by omega)]; exact ptFn_left _ _ _ _ (by omega) (by omega)
  · have := hcj.tail; rw [show k + 1 + a.size + 1 = k + a.size + 2 by omega] at this; exact this
  · rw [h.pt p (by omega) (by simp only [T.size]; omega)]; simp only [T.pt]; rw [ptFn_cons _ _ _ _ (by omega), ptFn_right _ _ _ _ (by omega), hal, ptFn_cons _ _ _ _ (by omega), show k + 1 + a.size + 1 = k + a.size + 2 by omega]
  · rw [h.pt k (Nat.le_refl _) (by simp only [T.size]; omega)]; simp only [T.pt]; exact ptFn_head _ _ _
  · have := hcj.head; rw [show k + 1 + a.size = k + a.size + 1 by omega] at this; exact this
theorem BdAt.loopA {cd : List RI} {pt : List Nat} {k e : Nat} {i j : RI} {a r : T} (h : BdAt cd pt k e (.loop i a j r)) : BdAt cd pt (k + 1) (k + a.size + 1) a ∧ BdAt cd pt (k + a.size + 2) e r ∧ pt.getD k 0 = k + a.size + 1 := by
  have hc := h.cd
  simp only [T.flat] at hc
  have hcj := hc.tail.right
  rw [a.flat_length] at hcj
  have hal := a.pt_length (k + 1) (k + a.size + 1)
  refine ⟨⟨hc.tail.left, fun p h1 h2 => ?_⟩, ⟨?_, fun p h1 h2 => ?_⟩, ?_⟩
  · rw [h.pt p (by omega) (by simp only [T.size]; omega)]; simp only [T.pt]; rw [ptFn_cons _ _ _ _ (by omega)]; exact ptFn_left _ _ _ _ (by omega) (by omega)
  · have := hcj.tail; rw [show k + 1 + a.size + 1 = k + a.size + 2 by omega] at this; exact this
  · rw [h.pt p (by omega) (by simp only [T.size]; omega)]; simp only [T.pt]; rw [ptFn_cons _ _ _ _ (by omega), ptFn_right _ _ _ _ (by omega), hal, ptFn_cons _ _ _ _ (by omega), show k + 1 + a.size + 1 = k + a.size + 2 by omega]
  · rw [h.pt k (Nat.le_refl _) (by simp only [T.size]; omega)]; simp only [T.pt]; exact ptFn_head _ _ _
theorem BdAt.ite2A {cd : List RI} {pt : List Nat} {k e : Nat} {i x j : RI} {a b r : T} (h : BdAt cd pt k e (.ite2 i a x b j r)) : BdAt cd pt (k + 1) e a ∧ BdAt cd pt (k + a.size + 2) e b ∧ BdAt cd pt (k + a.size + b.size + 3) e r ∧ pt.getD k 0 = k + a.size + 1 ∧
    pt.getD (k + a.size + 1) 0 = k + a.size + b.size + 2 ∧ cd.getD (k + a.size + 1) default = x := by
  have hc := h.cd
  simp only [T.flat] at hc
  have hcx := hc.tail.right
  rw [a.flat_length, show k + 1 + a.size = k + a.size + 1 by omega] at hcx
  have hcj := hcx.tail.right
  rw [b.flat_length] at hcj
  have hal := a.pt_length (k + 1) e
  have hbl := b.pt_length (k + a.size + 2) e
  refine ⟨⟨hc.tail.left, fun p h1 h2 => ?_⟩, ⟨?_, fun p h1 h2 => ?_⟩, ⟨?_, fun p h1 h2 => ?_⟩, ?_, ?_, hcx.head⟩
  · rw [h.pt p (by omega) (by simp only [T.size]; omega)]; simp only [T.pt]; rw [ptFn_cons _ _ _ _ (by omega)]; exact ptFn_left _ _ _ _ (by omega) (by omega)
  · exact hcx.tail.left
  · rw [h.pt p (by omega) (by simp only [T.size]; omega)]; simp only [T.pt]; rw [ptFn_cons _ _ _ _ (by omega), ptFn_right _ _ _ _ (by omega), hal, ptFn_cons _ _ _ _ (by omega), show k + 1 + a.size + 1 = k + a.size + 2 by omega]; exact ptFn_left _ _ _ _ (by omega) (by omega)
  · have := hcj.tail; rw [show k + a.size + 1 + 1 + b.size + 1 = k + a.size + b.size + 3 by omega] at this; exact this
  · rw [h.pt p (by omega) (by simp only [T.size]; omega)]; simp only [T.pt]
    rw [ptFn_cons _ _ _ _ (by omega), ptFn_right _ _ _ _ (by omega), hal, ptFn_cons _ _ _ _ (by omega), show k + 1 + a.size + 1 = k + a.size + 2 by omega, ptFn_right _ _ _ _ (by omega), hbl, ptFn_cons _ _ _ _ (by omega), show k + a.size + 2 + b.size + 1 = k + a.size + b.size + 3 by omega]
  · rw [h.pt k (Nat.le_refl _) (by simp only [T.size]; omega)]; simp only [T.pt]; exact ptFn_head _ _ _
  · rw [h.pt _ (by omega) (by simp only [T.size]; omega)]; simp only [T.pt]; rw [ptFn_cons _ _ _ _ (by omega), ptFn_right _ _ _ _ (by omega), hal, show k + 1 + a.size = k + a.size + 1 by omega]; exact ptFn_head _ _ _
def BdRel (cd : List RI) (pt : List Nat) (hi : Nat) (res : Int) (w : World) (n i : Value) (wr : World) : Prop :=
  ∃ (k : Nat) (acc : Int) (r : T) (e : Nat) (wi : Bool) (d : Nat), i = .int .i64 (k : Int) ∧ n = .int .i64 acc ∧ k + r.size = hi ∧ BdAt cd pt k e r ∧ r.wf wi d ∧ r.bd acc = res ∧ 0 ≤ acc ∧ acc ≤ BY ∧ Below w.heap.size w wr
theorem flat_arg {cd : List RI} (harg : ∀ i ∈ cd, 0 ≤ i.arg ∧ i.arg < 4294967296) {k : Nat} {t : T} (h : CdAt cd k t.flat) (hk : k + t.size ≤ cd.length) : ∀ i ∈ t.flat, 0 ≤ i.arg := fun i hi => by
  obtain ⟨j, hj, rfl⟩ := List.getElem_of_mem hi
  have e := h j hj
  have hl := t.flat_length
  rw [List.getD_eq_getElem?_getD, List.getD_eq_getElem?_getD, List.getElem?_eq_getElem hj, List.getElem?_eq_getElem (show k + j < cd.length by omega)] at e
  simp only [Option.getD_some] at e
  rw [← e]
  exact (harg _ (List.getElem_mem _)).1
end Go.Proofs.Ytefdnjhhaejgbaa

namespace Go.Proofs.Ytefdnjhhaejgbaa
open Go.RowKit
set_option linter.unusedVariables false
inductive Out where
  | ok (s : PS)
  | left (s : PS)
  | err (n : Int)
def loopRun (c : MC) (body : PS → Out) : Nat → PS → Out
  | 0, s => .ok s
  | n + 1, s => match tick c s with
    | .error e => .err e
    | .ok s1 => match body s1 with
      | .ok s2 => loopRun c body n s2
      | .left s2 => .ok s2
      | .err e => .err e
def T.run (c : MC) : T → PS → Out
  | .nil, s => .ok s
  | .plain i r, s => match tick c s with
    | .error e => .err e
    | .ok s1 => if i.op = 30 then (if s1.get i.a = 0 then T.run c r s1 else .left s1) else match effect c s1 i with
      | .error e => .err e
      | .ok s2 => T.run c r s2
  | .ite i a j r, s => match tick c s with
    | .error e => .err e
    | .ok s1 => match (if s1.get i.a = 0 then .ok s1 else T.run c a s1) with
      | .ok s2 => T.run c r s2
      | .left s2 => .left s2
      | .err e => .err e
  | .ite2 i a x b j r, s => match tick c s with
    | .error e => .err e
    | .ok s1 => match (if s1.get i.a = 0 then T.run c b s1 else T.run c a s1) with
      | .ok s2 => T.run c r s2
      | .left s2 => .left s2
      | .err e => .err e
  | .loop i a j r, s => match tick c s with
    | .error e => .err e
    | .ok s1 => if i.arg < s1.get i.a then .err 18 else match loopRun c (fun s => T.run c a s) (s1.get i.a).toNat s1 with
      | .ok s2 => T.run c r s2
      | .left s2 => .left s2
      | .err e => .err e
def PS.at (s : PS) (k : Nat) (L : List (Nat × Int)) : PS := { s with pc := k, loops := L }
def exAt (r : Except Int PS) (k : Nat) (L : List (Nat × Int)) : Except Int PS := match r with
  | .ok s => .ok (s.at k L)
  | .error e => .error e
theorem tick_at (c : MC) (s : PS) (k : Nat) (L : List (Nat × Int)) : tick c (s.at k L) = exAt (tick c s) k L := by
  unfold tick
  show (if s.steps < c.fuel then _ else _) = _
  split <;> rfl
inductive Runs (c : MC) : PS → Except Int PS → Prop where
  | stop {s : PS} : c.cd.length ≤ s.pc → Runs c s (.ok s)
  | err {s : PS} {e : Int} : s.pc < c.cd.length → mstep c s = .error e → Runs c s (.error e)
  | step {s s' : PS} {r : Except Int PS} : s.pc < c.cd.length → mstep c s = .ok s' → Runs c s' r → Runs c s r
theorem Runs.uniq {c : MC} {s : PS} {r r' : Except Int PS} (h : Runs c s r) (h' : Runs c s r') : r = r' := by
  induction h with
  | stop h => cases h' with
    | stop _ => rfl
    | err h1 _ => omega
    | step h1 _ _ => omega
  | err h1 h2 => cases h' with
    | stop _ => omega
    | err _ h3 => rw [h2] at h3; cases h3; rfl
    | step _ h3 _ => rw [h2] at h3; cases h3
  | step h1 h2 _ ih => cases h' with
    | stop _ => omega
    | err _ h3 => rw [h2] at h3; cases h3
    | step _ h3 h4 => rw [h2] at h3; cases h3; exact ih h4
theorem runs_mres {c : MC} {t : T} (R : RCode c t) : ∀ (n : Nat) (s : PS), rmu c s ≤ n → RInv c t s → Runs c s (mres c s) := by
  intro n
  induction n with
  | zero =>
    intro s hn I
    have := I.fine.pc
    unfold rmu at hn
    omega
  | succ n ih =>
    intro s hn I
    rw [mres_eq R I]
    by_cases hpc : s.pc < c.cd.length
    · rw [if_pos hpc]
      cases hs : mstep c s with
      | error e => exact .err hpc hs
      | ok s' =>
        obtain ⟨i1, i2⟩ := step_inv R I hpc hs
        exact .step hpc hs (ih s' (by omega) i1)
    · rw [if_neg hpc]
      exact .stop (by omega)
/-! ### steps and fuel -/
def MC.fu (c : MC) (f : Int) : MC := { c with fuel := f }
theorem tick_fuel {c : MC} {s s' : PS} (h : tick c s = .ok s') : s'.steps = s.steps + 1 ∧ ∀ f, (s'.steps ≤ f → tick (c.fu f) s = .ok s') ∧ (f < s'.steps → tick (c.fu f) s = .error 19) := by
  unfold tick at h
  split at h
  · cases h
    refine ⟨rfl, fun f => ⟨fun hf => ?_, fun hf => ?_⟩⟩
    · unfold tick MC.fu; simp only at hf ⊢; rw [if_pos (by omega)]
    · unfold tick MC.fu; simp only at hf ⊢; rw [if_neg (by omega)]
  · cases h
theorem effect_quiet {c : MC} {s s' : PS} {i : RI} (h29 : i.op ≠ 29) (h31 : i.op ≠ 31) (h : effect c s i = .ok s') : s'.steps = s.steps ∧ ∀ f, effect (c.fu f) s i = .ok s' := by
  refine ⟨?_, fun f => ?_⟩
  · unfold effect at h
    by_cases h0 : i.op = 0
    · rw [if_pos h0] at h; cases h; rfl
    rw [if_neg h0] at h
    by_cases h36 : i.op = 36
    · rw [if_pos h36] at h; cases h; rfl
    rw [if_neg h36] at h
    by_cases h37 : i.op = 37
    · rw [if_pos h37] at h; cases h; rfl
    rw [if_neg h37] at h
    by_cases h38 : i.op = 38
    · rw [if_pos h38] at h; cases h; rfl
    rw [if_neg h38] at h
    by_cases h32 : i.op = 32
    · rw [if_pos h32] at h; cases h; rfl
    rw [if_neg h32] at h
    by_cases h33 : i.op = 33
    · rw [if_pos h33] at h; cases h; rfl
    rw [if_neg h33] at h
    by_cases h34 : i.op = 34
    · rw [if_pos h34] at h; split at h <;> (cases h; try rfl)
    rw [if_neg h34] at h
    by_cases h35 : i.op = 35
    · rw [if_pos h35] at h; cases h; rfl
    rw [if_neg h35] at h
    by_cases h3 : i.op = 3
    · rw [if_pos h3] at h; split at h <;> (cases h; try rfl)
    rw [if_neg h3] at h
    by_cases h4 : i.op = 4
    · rw [if_pos h4] at h; split at h <;> (cases h; try rfl)
    rw [if_neg h4] at h
    by_cases h27 : i.op = 27
    · rw [if_pos h27] at h; cases h; split <;> rfl
    rw [if_neg h27] at h
    by_cases h28 : i.op = 28
    · rw [if_pos h28] at h; cases h; rfl
    rw [if_neg h28] at h
    rw [if_neg h29] at h
    by_cases h30 : i.op = 30
    · rw [if_pos h30] at h; cases h; split <;> rfl
    rw [if_neg h30, if_neg h31] at h
    split at h <;> (cases h; try rfl)
  · rw [← h]
    unfold effect
    simp only [if_neg h29, if_neg h31]
    rfl
theorem effect_fuel {c : MC} {s s' : PS} {i : RI} (h : effect c s i = .ok s') : s.steps ≤ s'.steps ∧ ∀ f, (s'.steps ≤ f → effect (c.fu f) s i = .ok s') ∧ (s.steps ≤ f → f < s'.steps → effect (c.fu f) s i = .error 19) := by
  by_cases h29 : i.op = 29
  · unfold effect at h ⊢
    simp only [h29, show (29 : Int) ≠ 0 by decide, show (29 : Int) ≠ 36 by decide, show (29 : Int) ≠ 37 by decide, show (29 : Int) ≠ 38 by decide, show (29 : Int) ≠ 32 by decide, show (29 : Int) ≠ 33 by decide, show (29 : Int) ≠ 34 by decide, show (29 : Int) ≠ 35 by decide, show (29 : Int) ≠ 3 by decide, show (29 : Int) ≠ 4 by decide, show (29 : Int) ≠ 27 by decide, show (29 : Int) ≠ 28 by decide, if_false, if_true] at h ⊢
    split at h
    · cases h
    · rename_i ha
      split at h
      · rename_i h0
        cases h
        refine ⟨Int.le_refl _, fun f => ⟨fun _ => ?_, fun h1 h2 => ?_⟩⟩
        · rw [if_neg ha, if_pos h0]; rfl
        · simp only at h2; omega
      · rename_i h0
        obtain ⟨e1, e2⟩ := tick_fuel h
        refine ⟨by rw [e1]; show s.steps ≤ s.steps + 1; omega, fun f => ⟨fun hf => ?_, fun h1 h2 => ?_⟩⟩
        · rw [if_neg ha, if_neg h0]; exact (e2 f).1 hf
        · rw [if_neg ha, if_neg h0]; exact (e2 f).2 h2
  · by_cases h31 : i.op = 31
    · unfold effect at h ⊢
      simp only [h31, show (31 : Int) ≠ 0 by decide, show (31 : Int) ≠ 36 by decide, show (31 : Int) ≠ 37 by decide, show (31 : Int) ≠ 38 by decide, show (31 : Int) ≠ 32 by decide, show (31 : Int) ≠ 33 by decide, show (31 : Int) ≠ 34 by decide, show (31 : Int) ≠ 35 by decide, show (31 : Int) ≠ 3 by decide, show (31 : Int) ≠ 4 by decide, show (31 : Int) ≠ 27 by decide, show (31 : Int) ≠ 28 by decide, show (31 : Int) ≠ 29 by decide, show (31 : Int) ≠ 30 by decide, if_false, if_true] at h ⊢
      cases hL : s.loops.getLast? with
      | none =>
        rw [hL] at h
        cases h
        exact ⟨Int.le_refl _, fun f => ⟨fun _ => rfl, fun h1 h2 => by omega⟩⟩
      | some p =>
        obtain ⟨b, l⟩ := p
        rw [hL] at h
        simp only at h ⊢
        split at h
        · rename_i hp
          cases h
          exact ⟨Int.le_refl _, fun f => ⟨fun _ => by rw [if_pos (show (c.fu f).pt.getD b 0 ≠ s.pc from hp)], fun h1 h2 => by omega⟩⟩
        · rename_i hp
          split at h
          · rename_i h1
            cases h
            exact ⟨Int.le_refl _, fun f => ⟨fun _ => by rw [if_neg (show ¬ (c.fu f).pt.getD b 0 ≠ s.pc from hp), if_pos h1], fun h1 h2 => by simp only at h2; omega⟩⟩
          · rename_i h1
            obtain ⟨e1, e2⟩ := tick_fuel h
            refine ⟨by rw [e1]; show s.steps ≤ s.steps + 1; omega, fun f => ⟨fun hf => ?_, fun h3 h4 => ?_⟩⟩
            · rw [if_neg (show ¬ (c.fu f).pt.getD b 0 ≠ s.pc from hp), if_neg h1]; exact (e2 f).1 hf
            · rw [if_neg (show ¬ (c.fu f).pt.getD b 0 ≠ s.pc from hp), if_neg h1]; exact (e2 f).2 h4
    · obtain ⟨e1, e2⟩ := effect_quiet h29 h31 h
      exact ⟨by omega, fun f => ⟨fun _ => e2 f, fun h1 h2 => by omega⟩⟩
theorem mstep_fuel {c : MC} {s s' : PS} (h : mstep c s = .ok s') : s.steps ≤ s'.steps ∧ ∀ f, (s'.steps ≤ f → mstep (c.fu f) s = .ok s') ∧ (s.steps ≤ f → f < s'.steps → mstep (c.fu f) s = .error 19) := by
  unfold mstep at h ⊢
  have hcd : ∀ f, (c.fu f).cd = c.cd := fun f => rfl
  simp only [hcd]
  by_cases ho : (c.cd.getD s.pc default).op ≠ 28 ∧ (c.cd.getD s.pc default).op ≠ 31
  · simp only [if_pos ho] at h ⊢
    cases ht : tick c s with
    | error e => rw [ht] at h; cases h
    | ok s1 =>
      rw [ht] at h
      simp only [Except.bind] at h
      obtain ⟨e1, e2⟩ := tick_fuel ht
      cases he : effect c s1 (c.cd.getD s.pc default) with
      | error e => rw [he] at h; cases h
      | ok s2 =>
        rw [he] at h
        cases h
        obtain ⟨f1, f2⟩ := effect_fuel he
        simp only at f1 f2 ⊢
        refine ⟨by omega, fun f => ⟨fun hf => ?_, fun h1 h2 => ?_⟩⟩
        · rw [(e2 f).1 (by omega)]; simp only [Except.bind]; rw [(f2 f).1 hf]
        · by_cases hh : f < s1.steps
          · rw [(e2 f).2 hh]; rfl
          · rw [(e2 f).1 (by omega)]; simp only [Except.bind]; rw [(f2 f).2 (by omega) h2]
  · simp only [if_neg ho] at h ⊢
    simp only [Except.bind] at h ⊢
    cases he : effect c s (c.cd.getD s.pc default) with
    | error e => rw [he] at h; cases h
    | ok s2 =>
      rw [he] at h
      cases h
      obtain ⟨f1, f2⟩ := effect_fuel he
      simp only at f1 f2 ⊢
      refine ⟨f1, fun f => ⟨fun hf => ?_, fun h1 h2 => ?_⟩⟩
      · rw [(f2 f).1 hf]
      · rw [(f2 f).2 h1 h2]
theorem Runs.fuel {c : MC} {s s' : PS} (h : Runs c s (.ok s')) : s.steps ≤ s'.steps ∧ ∀ f, (s'.steps ≤ f → Runs (c.fu f) s (.ok s')) ∧ (s.steps ≤ f → f < s'.steps → Runs (c.fu f) s (.error 19)) := by
  generalize hr : Except.ok s' = r at h
  induction h with
  | stop h => cases hr; exact ⟨Int.le_refl _, fun f => ⟨fun _ => .stop h, fun h1 h2 => by omega⟩⟩
  | err _ _ => cases hr
  | step h1 h2 _ ih =>
    obtain ⟨i1, i2⟩ := ih hr
    obtain ⟨m1, m2⟩ := mstep_fuel h2
    refine ⟨by omega, fun f => ⟨fun hf => .step h1 ((m2 f).1 (by omega)) ((i2 f).1 hf), fun h3 h4 => ?_⟩⟩
    rename_i s1 s2 _ _
    by_cases hh : f < s2.steps
    · exact .err h1 ((m2 f).2 h3 hh)
    · exact .step h1 ((m2 f).1 (by omega)) ((i2 f).2 (by omega) h4)
end Go.Proofs.Ytefdnjhhaejgbaa

namespace Go.Proofs.Ytefdnjhhaejgbaa
open Go.RowKit
set_option linter.unusedVariables false
theorem effect_at {c : MC} {i : RI} (h : i.op ≠ 27 ∧ i.op ≠ 28 ∧ i.op ≠ 29 ∧ i.op ≠ 31) (h30 : i.op ≠ 30) (s : PS) (k : Nat) (L : List (Nat × Int)) : effect c (s.at k L) i = exAt (effect c s i) k L := by
  unfold effect
  simp only [if_neg h.1, if_neg h.2.1, if_neg h.2.2.1, if_neg h.2.2.2, if_neg h30]
  by_cases h0 : i.op = 0
  · rw [if_pos h0, if_pos h0]; rfl
  rw [if_neg h0, if_neg h0]
  by_cases h36 : i.op = 36
  · rw [if_pos h36, if_pos h36]; rfl
  rw [if_neg h36, if_neg h36]
  by_cases h37 : i.op = 37
  · rw [if_pos h37, if_pos h37]; rfl
  rw [if_neg h37, if_neg h37]
  by_cases h38 : i.op = 38
  · rw [if_pos h38, if_pos h38]; rfl
  rw [if_neg h38, if_neg h38]
  by_cases h32 : i.op = 32
  · rw [if_pos h32, if_pos h32]; rfl
  rw [if_neg h32, if_neg h32]
  by_cases h33 : i.op = 33
  · rw [if_pos h33, if_pos h33]; rfl
  rw [if_neg h33, if_neg h33]
  by_cases h34 : i.op = 34
  · rw [if_pos h34, if_pos h34]
    show (if s.out.length < 65536 then _ else _) = _
    split <;> rfl
  rw [if_neg h34, if_neg h34]
  by_cases h35 : i.op = 35
  · rw [if_pos h35, if_pos h35]; rfl
  rw [if_neg h35, if_neg h35]
  by_cases h3 : i.op = 3
  · rw [if_pos h3, if_pos h3]
    show (if (s.get i.a).toNat < (s.arr.getD i.arg.toNat []).length then _ else _) = _
    split <;> rfl
  rw [if_neg h3, if_neg h3]
  by_cases h4 : i.op = 4
  · rw [if_pos h4, if_pos h4]
    show (if (s.get i.a).toNat < (s.arr.getD i.arg.toNat []).length then _ else _) = _
    split <;> rfl
  rw [if_neg h4, if_neg h4]
  show (if arithErr i.op (s.get i.b) = 0 then _ else _) = _
  split <;> rfl
theorem mstep_at {c : MC} {i : RI} {k : Nat} (hi : c.cd.getD k default = i) (ho : i.op ≠ 28 ∧ i.op ≠ 31) (s : PS) (L : List (Nat × Int)) :
    mstep c (s.at k L) = match tick c s with
      | .error e => .error e
      | .ok s1 => (effect c (s1.at k L) i).bind fun s2 => .ok { s2 with pc := s2.pc + 1 } := by
  unfold mstep
  show (if (c.cd.getD k default).op ≠ 28 ∧ (c.cd.getD k default).op ≠ 31 then tick c (s.at k L) else .ok (s.at k L)).bind (fun s => (effect c s (c.cd.getD k default)).bind fun s => .ok { s with pc := s.pc + 1 }) = _
  rw [hi, if_pos ho, tick_at]
  cases tick c s <;> rfl
theorem mstep_quiet {c : MC} {i : RI} {k : Nat} (hi : c.cd.getD k default = i) (ho : ¬ (i.op ≠ 28 ∧ i.op ≠ 31)) (s : PS) (L : List (Nat × Int)) :
    mstep c (s.at k L) = (effect c (s.at k L) i).bind fun s2 => .ok { s2 with pc := s2.pc + 1 } := by
  unfold mstep
  show (if (c.cd.getD k default).op ≠ 28 ∧ (c.cd.getD k default).op ≠ 31 then tick c (s.at k L) else .ok (s.at k L)).bind (fun s => (effect c s (c.cd.getD k default)).bind fun s => .ok { s with pc := s.pc + 1 }) = _
  rw [hi, if_neg ho]
  rfl
def RunsI (c : MC) (t0 : T) (s : PS) (r : Except Int PS) : Prop := RInv c t0 s → Runs c s r
theorem RunsI.step {c : MC} {t0 : T} {s s' : PS} {r : Except Int PS} (R : RCode c t0) (h1 : s.pc < c.cd.length) (h2 : mstep c s = .ok s') (h : RunsI c t0 s' r) : RunsI c t0 s r := fun I => .step h1 h2 (h (step_inv R I h1 h2).1)
theorem RunsI.err {c : MC} {t0 : T} {s : PS} {e : Int} (h1 : s.pc < c.cd.length) (h2 : mstep c s = .error e) : RunsI c t0 s (.error e) := fun _ => .err h1 h2
def Goes (c : MC) (t0 : T) (r : Except Int PS) (o : Out) (k e : Nat) (L : List (Nat × Int)) : Prop := match o with
  | .ok s => RunsI c t0 (s.at k L) r
  | .left s => RunsI c t0 (s.at (e + 1) L.dropLast) r
  | .err n => r = .error n
def LoopsOk (c : MC) (L : List (Nat × Int)) (e hi : Nat) : Prop := ∀ b l, L.getLast? = some (b, l) → c.pt.getD b 0 = e ∧ hi ≤ e
theorem effect_if {c : MC} {i : RI} (h : i.op = 27) (s : PS) : effect c s i = .ok (if s.get i.a = 0 then { s with pc := c.pt.getD s.pc 0 } else s) := by
  unfold effect
  simp only [h, show (27 : Int) ≠ 0 by decide, show (27 : Int) ≠ 36 by decide, show (27 : Int) ≠ 37 by decide, show (27 : Int) ≠ 38 by decide, show (27 : Int) ≠ 32 by decide, show (27 : Int) ≠ 33 by decide, show (27 : Int) ≠ 34 by decide, show (27 : Int) ≠ 35 by decide, show (27 : Int) ≠ 3 by decide, show (27 : Int) ≠ 4 by decide, if_false, if_true]
theorem effect_else {c : MC} {i : RI} (h : i.op = 28) (s : PS) : effect c s i = .ok { s with pc := c.pt.getD s.pc 0 } := by
  unfold effect
  simp only [h, show (28 : Int) ≠ 0 by decide, show (28 : Int) ≠ 36 by decide, show (28 : Int) ≠ 37 by decide, show (28 : Int) ≠ 38 by decide, show (28 : Int) ≠ 32 by decide, show (28 : Int) ≠ 33 by decide, show (28 : Int) ≠ 34 by decide, show (28 : Int) ≠ 35 by decide, show (28 : Int) ≠ 3 by decide, show (28 : Int) ≠ 4 by decide, show (28 : Int) ≠ 27 by decide, if_false, if_true]
theorem effect_loop {c : MC} {i : RI} (h : i.op = 29) (s : PS) : effect c s i = (if i.arg < s.get i.a then .error 18 else if s.get i.a = 0 then .ok { s with pc := c.pt.getD s.pc 0 } else tick c { s with loops := s.loops ++ [(s.pc, s.get i.a)] }) := by
  unfold effect
  simp only [h, show (29 : Int) ≠ 0 by decide, show (29 : Int) ≠ 36 by decide, show (29 : Int) ≠ 37 by decide, show (29 : Int) ≠ 38 by decide, show (29 : Int) ≠ 32 by decide, show (29 : Int) ≠ 33 by decide, show (29 : Int) ≠ 34 by decide, show (29 : Int) ≠ 35 by decide, show (29 : Int) ≠ 3 by decide, show (29 : Int) ≠ 4 by decide, show (29 : Int) ≠ 27 by decide, show (29 : Int) ≠ 28 by decide, if_false, if_true]
theorem effect_leave {c : MC} {i : RI} (h : i.op = 30) (s : PS) : effect c s i = .ok (if s.get i.a = 0 then s else { s with pc := c.pt.getD s.pc 0, loops := s.loops.dropLast }) := by
  unfold effect
  simp only [h, show (30 : Int) ≠ 0 by decide, show (30 : Int) ≠ 36 by decide, show (30 : Int) ≠ 37 by decide, show (30 : Int) ≠ 38 by decide, show (30 : Int) ≠ 32 by decide, show (30 : Int) ≠ 33 by decide, show (30 : Int) ≠ 34 by decide, show (30 : Int) ≠ 35 by decide, show (30 : Int) ≠ 3 by decide, show (30 : Int) ≠ 4 by decide, show (30 : Int) ≠ 27 by decide, show (30 : Int) ≠ 28 by decide, show (30 : Int) ≠ 29 by decide, if_false, if_true]
theorem effect_end {c : MC} {i : RI} (h : i.op = 31) (s : PS) : effect c s i = (match s.loops.getLast? with
      | none => .ok s
      | some (b, l) => if c.pt.getD b 0 ≠ s.pc then .ok s else if l = 1 then .ok { s with loops := s.loops.dropLast }
        else tick c { s with loops := s.loops.dropLast ++ [(b, l - 1)], pc := b }) := by
  unfold effect
  simp only [h, show (31 : Int) ≠ 0 by decide, show (31 : Int) ≠ 36 by decide, show (31 : Int) ≠ 37 by decide, show (31 : Int) ≠ 38 by decide, show (31 : Int) ≠ 32 by decide, show (31 : Int) ≠ 33 by decide, show (31 : Int) ≠ 34 by decide, show (31 : Int) ≠ 35 by decide, show (31 : Int) ≠ 3 by decide, show (31 : Int) ≠ 4 by decide, show (31 : Int) ≠ 27 by decide, show (31 : Int) ≠ 28 by decide, show (31 : Int) ≠ 29 by decide, show (31 : Int) ≠ 30 by decide, if_false, if_true]
  cases s.loops.getLast? <;> rfl
theorem end_if {c : MC} {t0 : T} (R : RCode c t0) {r : Except Int PS} {s : PS} {L : List (Nat × Int)} {k e : Nat} {j : RI} (hj : c.cd.getD k default = j) (ho : j.op = 31) (hk : k < c.cd.length) (hL : LoopsOk c L e (k + 1)) (h : RunsI c t0 (s.at (k + 1) L) r) : RunsI c t0 (s.at k L) r := by
  refine RunsI.step R hk ?_ h
  rw [mstep_quiet hj (by simp [ho]), effect_end ho]
  cases hL2 : L.getLast? with
  | none =>
    show ((match L.getLast? with | none => _ | some (b, l) => _ : Except Int PS).bind _) = _
    rw [hL2]; rfl
  | some p =>
    obtain ⟨b, l⟩ := p
    obtain ⟨h1, h2⟩ := hL b l hL2
    show ((match L.getLast? with | none => _ | some (b, l) => _ : Except Int PS).bind _) = _
    rw [hL2]
    show ((if c.pt.getD b 0 ≠ k then _ else _ : Except Int PS).bind _) = _
    rw [if_pos (by omega)]
    rfl
theorem end_loop {c : MC} {t0 : T} (R : RCode c t0) {r : Except Int PS} {s : PS} {L : List (Nat × Int)} {k e : Nat} {j : RI} {m : Nat} (hj : c.cd.getD e default = j) (ho : j.op = 31) (hk : e < c.cd.length) (hp : c.pt.getD k 0 = e)
    (h : match m with
      | 0 => RunsI c t0 (s.at (e + 1) L) r
      | m + 1 => match tick c s with
        | .error n => r = .error n
        | .ok s1 => RunsI c t0 (s1.at (k + 1) (L ++ [(k, (m : Int) + 1)])) r) : RunsI c t0 (s.at e (L ++ [(k, (m : Int) + 1)])) r := by
  have step : mstep c (s.at e (L ++ [(k, (m : Int) + 1)])) = ((if c.pt.getD k 0 ≠ e then .ok (s.at e (L ++ [(k, (m : Int) + 1)])) else if (m : Int) + 1 = 1 then .ok (s.at e (L ++ [(k, (m : Int) + 1)]).dropLast) else tick c (s.at k ((L ++ [(k, (m : Int) + 1)]).dropLast ++ [(k, (m : Int) + 1 - 1)]))) : Except Int PS).bind fun s2 => .ok { s2 with pc := s2.pc + 1 } := by
    rw [mstep_quiet hj (by simp [ho]), effect_end ho]
    show ((match (L ++ [(k, (m : Int) + 1)]).getLast? with | none => _ | some (b, l) => _ : Except Int PS).bind _) = _
    rw [List.getLast?_append]
    rfl
  rw [if_neg (by omega), List.dropLast_concat] at step
  cases m with
  | zero =>
    rw [if_pos (by simp)] at step
    exact RunsI.step R hk step h
  | succ m =>
    rw [if_neg (by omega), tick_at] at step
    simp only at h
    cases ht : tick c s with
    | error n =>
      rw [ht] at h step
      simp only at h
      subst h
      exact RunsI.err hk step
    | ok s1 =>
      rw [ht] at h step
      refine RunsI.step R hk step ?_
      have e1 : ((m + 1 : Nat) : Int) + 1 - 1 = (m : Int) + 1 := by omega
      rw [e1]
      exact h
theorem T.flat_runs {c : MC} {t0 : T} (R : RCode c t0) (r : Except Int PS) : ∀ (t : T) (w : Bool) (d k e : Nat) (L : List (Nat × Int)) (s : PS), t.wf w d → BdAt c.cd c.pt k e t → k + t.size ≤ c.cd.length → LoopsOk c L e (k + t.size) →
    Goes c t0 r (t.run c s) (k + t.size) e L → RunsI c t0 (s.at k L) r
  | .nil, w, d, k, e, L, s, _, _, _, _, h => h
  | .plain i q, w, d, k, e, L, s, hw, hB, hk, hL, h => by
    simp only [T.wf] at hw
    simp only [T.size] at hk hL
    have hkl : k < c.cd.length := by omega
    have hi := hB.cd.head
    have hB' := hB.plainR
    have ih := fun s' => T.flat_runs R r q w d (k + 1) e L s' hw.2.2 hB' (by omega) (fun b l hb => by have := hL b l hb; omega)
    rw [show k + 1 + q.size = k + (T.plain i q).size by simp only [T.size]; omega] at ih
    have hm := mstep_at hi ⟨hw.1.2.1, hw.1.2.2.2⟩ s L
    simp only [T.run] at h
    cases ht : tick c s with
    | error n =>
      rw [ht] at h hm
      simp only [Goes] at h
      subst h
      exact RunsI.err hkl hm
    | ok s1 =>
      rw [ht] at h hm
      simp only at h hm
      by_cases h30 : i.op = 30
      · rw [if_pos h30] at h
        rw [effect_leave h30] at hm
        by_cases ha : s1.get i.a = 0
        · rw [if_pos ha] at h
          rw [if_pos (show (s1.at k L).get i.a = 0 from ha)] at hm
          exact RunsI.step R hkl hm (ih s1 h)
        · rw [if_neg ha] at h
          rw [if_neg (show ¬ (s1.at k L).get i.a = 0 from ha)] at hm
          have hp : c.pt.getD k 0 = e := by
            rw [hB.pt k (Nat.le_refl _) (by simp only [T.size]; omega)]
            simp only [T.pt, if_pos h30]
            exact ptFn_head _ _ _
          refine RunsI.step R hkl hm ?_
          show RunsI c t0 (s1.at (c.pt.getD k 0 + 1) L.dropLast) r
          rw [hp]
          exact h
      · rw [if_neg h30] at h
        rw [effect_at hw.1 h30] at hm
        cases he : effect c s1 i with
        | error n =>
          rw [he] at h hm
          simp only [Goes] at h
          subst h
          exact RunsI.err hkl hm
        | ok s2 =>
          rw [he] at h hm
          exact RunsI.step R hkl hm (ih s2 h)
  | .ite i a j q, w, d, k, e, L, s, hw, hB, hk, hL, h => by
    simp only [T.wf] at hw
    simp only [T.size] at hk hL
    have hkl : k < c.cd.length := by omega
    have hi := hB.cd.head
    obtain ⟨hBa, hBq, hp, hj⟩ := hB.iteA
    have ihq := fun s' => T.flat_runs R r q w d (k + a.size + 2) e L s' hw.2.2.2.2 hBq (by omega) (fun b l hb => by have := hL b l hb; omega)
    rw [show k + a.size + 2 + q.size = k + (T.ite i a j q).size by simp only [T.size]; omega] at ihq
    have hm := mstep_at hi (by rw [hw.1]; decide) s L
    simp only [T.run] at h
    cases ht : tick c s with
    | error n =>
      rw [ht] at h hm
      simp only [Goes] at h
      subst h
      exact RunsI.err hkl hm
    | ok s1 =>
      rw [ht] at h hm
      simp only at h hm
      rw [effect_if hw.1] at hm
      by_cases ha : s1.get i.a = 0
      · rw [if_pos ha] at h
        rw [if_pos (show (s1.at k L).get i.a = 0 from ha)] at hm
        refine RunsI.step R hkl hm ?_
        show RunsI c t0 (s1.at (c.pt.getD k 0 + 1) L) r
        rw [hp]
        exact ihq s1 h
      · rw [if_neg ha] at h
        rw [if_neg (show ¬ (s1.at k L).get i.a = 0 from ha)] at hm
        refine RunsI.step R hkl hm ?_
        show RunsI c t0 (s1.at (k + 1) L) r
        refine T.flat_runs R r a w (d - 1) (k + 1) e L s1 hw.2.2.2.1 hBa (by omega) (fun b l hb => by have := hL b l hb; omega) ?_
        cases hr : a.run c s1 with
        | ok s2 =>
          rw [hr] at h
          simp only [Goes]
          rw [show k + 1 + a.size = k + a.size + 1 by omega]
          exact end_if (e := e) R hj hw.2.1 (by omega) (fun b l hb => by have := hL b l hb; omega) (ihq s2 h)
        | left s2 => rw [hr] at h; exact h
        | err n => rw [hr] at h; exact h
  | .ite2 i a x b j q, w, d, k, e, L, s, hw, hB, hk, hL, h => by
    simp only [T.wf] at hw
    simp only [T.size] at hk hL
    have hkl : k < c.cd.length := by omega
    have hi := hB.cd.head
    obtain ⟨hBa, hBb, hBq, hp, hpx, hx⟩ := hB.ite2A
    have hj : c.cd.getD (k + a.size + b.size + 2) default = j := by
      have hc := hB.cd
      simp only [T.flat] at hc
      have hcx := hc.tail.right
      rw [a.flat_length] at hcx
      have hcj := hcx.tail.right.head
      rw [b.flat_length] at hcj
      rw [show k + a.size + b.size + 2 = k + 1 + a.size + 1 + b.size by omega]
      exact hcj
    have ihq := fun s' => T.flat_runs R r q w d (k + a.size + b.size + 3) e L s' hw.2.2.2.2.2.2 hBq (by omega) (fun b l hb => by have := hL b l hb; omega)
    rw [show k + a.size + b.size + 3 + q.size = k + (T.ite2 i a x b j q).size by simp only [T.size]; omega] at ihq
    have hm := mstep_at hi (by rw [hw.1]; decide) s L
    simp only [T.run] at h
    cases ht : tick c s with
    | error n =>
      rw [ht] at h hm
      simp only [Goes] at h
      subst h
      exact RunsI.err hkl hm
    | ok s1 =>
      rw [ht] at h hm
      simp only at h hm
      rw [effect_if hw.1] at hm
      by_cases ha : s1.get i.a = 0
      · rw [if_pos ha] at h
        rw [if_pos (show (s1.at k L).get i.a = 0 from ha)] at hm
        refine RunsI.step R hkl hm ?_
        show RunsI c t0 (s1.at (c.pt.getD k 0 + 1) L) r
        rw [hp]
        refine T.flat_runs R r b w (d - 1) (k + a.size + 2) e L s1 hw.2.2.2.2.2.1 hBb (by omega) (fun b l hb => by have := hL b l hb; omega) ?_
        cases hr : b.run c s1 with
        | ok s2 =>
          rw [hr] at h
          simp only [Goes]
          rw [show k + a.size + 2 + b.size = k + a.size + b.size + 2 by omega]
          exact end_if (e := e) R hj hw.2.2.1 (by omega) (fun b l hb => by have := hL b l hb; omega) (ihq s2 h)
        | left s2 => rw [hr] at h; exact h
        | err n => rw [hr] at h; exact h
      · rw [if_neg ha] at h
        rw [if_neg (show ¬ (s1.at k L).get i.a = 0 from ha)] at hm
        refine RunsI.step R hkl hm ?_
        show RunsI c t0 (s1.at (k + 1) L) r
        refine T.flat_runs R r a w (d - 1) (k + 1) e L s1 hw.2.2.2.2.1 hBa (by omega) (fun b l hb => by have := hL b l hb; omega) ?_
        cases hr : a.run c s1 with
        | ok s2 =>
          rw [hr] at h
          simp only [Goes]
          rw [show k + 1 + a.size = k + a.size + 1 by omega]
          have hm2 := mstep_quiet hx (by simp [hw.2.1]) s2 L
          rw [effect_else hw.2.1] at hm2
          refine RunsI.step R (by show k + a.size + 1 < _; omega) hm2 ?_
          show RunsI c t0 (s2.at (c.pt.getD (k + a.size + 1) 0 + 1) L) r
          rw [hpx]
          exact ihq s2 h
        | left s2 => rw [hr] at h; exact h
        | err n => rw [hr] at h; exact h
  | .loop i a j q, w, d, k, e, L, s, hw, hB, hk, hL, h => by
    simp only [T.wf] at hw
    simp only [T.size] at hk hL
    have hkl : k < c.cd.length := by omega
    have hi := hB.cd.head
    obtain ⟨hBa, hBq, hp⟩ := hB.loopA
    have hj : c.cd.getD (k + a.size + 1) default = j := by
      have hc := hB.cd
      simp only [T.flat] at hc
      have hcj := hc.tail.right.head
      rw [a.flat_length] at hcj
      rw [show k + a.size + 1 = k + 1 + a.size by omega]
      exact hcj
    have ihq := fun s' => T.flat_runs R r q w d (k + a.size + 2) e L s' hw.2.2.2.2 hBq (by omega) (fun b l hb => by have := hL b l hb; omega)
    rw [show k + a.size + 2 + q.size = k + (T.loop i a j q).size by simp only [T.size]; omega] at ihq
    have hm := mstep_at hi (by rw [hw.1]; decide) s L
    -- the body, with so many rounds behind it
    have iha := fun (m : Nat) (s' : PS) => T.flat_runs R r a true (d - 1) (k + 1) (k + a.size + 1) (L ++ [(k, (m : Int) + 1)]) s' hw.2.2.2.1 hBa (by omega) (fun b l hb => by
      rw [List.getLast?_append] at hb
      simp only [List.getLast?_singleton, Option.some_or, Option.some.injEq, Prod.mk.injEq] at hb
      obtain ⟨rfl, _⟩ := hb
      exact ⟨hp, by omega⟩)
    have body : ∀ (m : Nat) (s1 : PS), (match a.run c s1 with
        | .ok s2 => Goes c t0 r (loopRun c (fun s => a.run c s) m s2) (k + a.size + 2) e L
        | .left s2 => RunsI c t0 (s2.at (k + a.size + 2) L) r
        | .err n => r = .error n) → RunsI c t0 (s1.at (k + 1) (L ++ [(k, (m : Int) + 1)])) r := by
      intro m
      induction m with
      | zero =>
        intro s1 h1
        refine iha 0 s1 ?_
        cases hr : a.run c s1 with
        | ok s2 =>
          rw [hr] at h1
          simp only [Goes]
          rw [show k + 1 + a.size = k + a.size + 1 by omega]
          exact end_loop R (m := 0) hj hw.2.1 (by omega) hp h1
        | left s2 =>
          rw [hr] at h1
          simp only [Goes, List.dropLast_concat]
          exact h1
        | err n => rw [hr] at h1; exact h1
      | succ m ihm =>
        intro s1 h1
        refine iha (m + 1) s1 ?_
        cases hr : a.run c s1 with
        | ok s2 =>
          rw [hr] at h1
          simp only [Goes]
          rw [show k + 1 + a.size = k + a.size + 1 by omega]
          refine end_loop R (m := m + 1) hj hw.2.1 (by omega) hp ?_
          simp only [loopRun] at h1 ⊢
          cases ht2 : tick c s2 with
          | error n => rw [ht2] at h1; exact h1
          | ok s3 =>
            rw [ht2] at h1
            refine ihm s3 ?_
            simp only at h1
            cases hr3 : a.run c s3 with
            | ok s4 => rw [hr3] at h1; exact h1
            | left s4 => rw [hr3] at h1; exact h1
            | err n => rw [hr3] at h1; exact h1
        | left s2 =>
          rw [hr] at h1
          simp only [Goes, List.dropLast_concat]
          exact h1
        | err n => rw [hr] at h1; exact h1
    simp only [T.run] at h
    cases ht : tick c s with
    | error n =>
      rw [ht] at h hm
      simp only [Goes] at h
      subst h
      exact RunsI.err hkl hm
    | ok s1 =>
      rw [ht] at h hm
      simp only at h hm
      rw [effect_loop hw.1] at hm
      by_cases harg : i.arg < s1.get i.a
      · rw [if_pos harg] at h
        rw [if_pos (show i.arg < (s1.at k L).get i.a from harg)] at hm
        simp only [Goes] at h
        subst h
        exact RunsI.err hkl hm
      · rw [if_neg harg] at h
        rw [if_neg (show ¬ i.arg < (s1.at k L).get i.a from harg)] at hm
        have hrest : ∀ o, Goes c t0 r (match o with | .ok s2 => q.run c s2 | .left s2 => .left s2 | .err n => .err n) (k + (T.loop i a j q).size) e L → Goes c t0 r o (k + a.size + 2) e L := by
          intro o ho
          cases o with
          | ok s2 => exact ihq s2 ho
          | left s2 => exact ho
          | err n => exact ho
        have h2 := hrest _ h
        by_cases ha : s1.get i.a = 0
        · rw [if_pos (show (s1.at k L).get i.a = 0 from ha)] at hm
          refine RunsI.step R hkl hm ?_
          show RunsI c t0 (s1.at (c.pt.getD k 0 + 1) L) r
          rw [hp]
          rw [ha] at h2
          exact h2
        · rw [if_neg (show ¬ (s1.at k L).get i.a = 0 from ha)] at hm
          intro I
          have hge : 0 ≤ s1.get i.a := by
            have := (I.fine.got i.a).1
            unfold tick at ht
            split at ht
            · cases ht; exact this
            · cases ht
          obtain ⟨m, hmn⟩ : ∃ m : Nat, s1.get i.a = (m : Int) + 1 := ⟨(s1.get i.a).toNat - 1, by omega⟩
          have hmt : (s1.get i.a).toNat = m + 1 := by omega
          rw [hmt] at h2
          simp only [loopRun] at h2
          have hm3 : mstep c (s.at k L) = (exAt (tick c s1) k (L ++ [(k, (m : Int) + 1)])).bind fun s2 => .ok { s2 with pc := s2.pc + 1 } := by
            rw [hm, ← tick_at, ← hmn]
            rfl
          cases ht2 : tick c s1 with
          | error n =>
            rw [ht2] at h2 hm3
            simp only [Goes] at h2
            subst h2
            exact .err hkl hm3
          | ok s2 =>
            rw [ht2] at h2 hm3
            refine RunsI.step R hkl hm3 ?_ I
            refine body m s2 ?_
            simp only at h2
            cases hr : a.run c s2 with
            | ok s3 => rw [hr] at h2; exact h2
            | left s3 => rw [hr] at h2; exact h2
            | err n => rw [hr] at h2; exact h2
theorem T.run_stays (c : MC) : ∀ (t : T) (d : Nat) (s s' : PS), t.wf false d → t.run c s ≠ .left s'
  | .nil, d, s, s', _ => by simp [T.run]
  | .plain i q, d, s, s', hw => by
    simp only [T.wf] at hw
    simp only [T.run]
    cases ht : tick c s with
    | error n => simp
    | ok s1 =>
      have h30 : i.op ≠ 30 := fun h => by have := hw.2.1 h; cases this
      simp only [if_neg h30]
      cases he : effect c s1 i with
      | error n => simp
      | ok s2 => exact T.run_stays c q d s2 s' hw.2.2
  | .ite i a j q, d, s, s', hw => by
    simp only [T.wf] at hw
    simp only [T.run]
    cases ht : tick c s with
    | error n => simp
    | ok s1 =>
      simp only
      by_cases ha : s1.get i.a = 0
      · rw [if_pos ha]; exact T.run_stays c q d s1 s' hw.2.2.2.2
      · rw [if_neg ha]
        cases hr : a.run c s1 with
        | ok s2 => exact T.run_stays c q d s2 s' hw.2.2.2.2
        | left s2 => exact absurd hr (T.run_stays c a (d - 1) s1 s2 hw.2.2.2.1)
        | err n => simp
  | .ite2 i a x b j q, d, s, s', hw => by
    simp only [T.wf] at hw
    simp only [T.run]
    cases ht : tick c s with
    | error n => simp
    | ok s1 =>
      simp only
      by_cases ha : s1.get i.a = 0
      · rw [if_pos ha]
        cases hr : b.run c s1 with
        | ok s2 => exact T.run_stays c q d s2 s' hw.2.2.2.2.2.2
        | left s2 => exact absurd hr (T.run_stays c b (d - 1) s1 s2 hw.2.2.2.2.2.1)
        | err n => simp
      · rw [if_neg ha]
        cases hr : a.run c s1 with
        | ok s2 => exact T.run_stays c q d s2 s' hw.2.2.2.2.2.2
        | left s2 => exact absurd hr (T.run_stays c a (d - 1) s1 s2 hw.2.2.2.2.1)
        | err n => simp
  | .loop i a j q, d, s, s', hw => by
    simp only [T.wf] at hw
    simp only [T.run]
    cases ht : tick c s with
    | error n => simp
    | ok s1 =>
      simp only
      by_cases harg : i.arg < s1.get i.a
      · rw [if_pos harg]; simp
      · rw [if_neg harg]
        have hl : ∀ (m : Nat) (x y : PS), loopRun c (fun s => a.run c s) m x ≠ .left y := by
          intro m
          induction m with
          | zero => intro x y; simp [loopRun]
          | succ m ih =>
            intro x y
            simp only [loopRun]
            cases tick c x with
            | error n => simp
            | ok x1 =>
              simp only
              cases a.run c x1 with
              | ok x2 => exact ih x2 y
              | left x2 => simp
              | err n => simp
        cases hr : loopRun c (fun s => a.run c s) (s1.get i.a).toNat s1 with
        | ok s2 => exact T.run_stays c q d s2 s' hw.2.2.2.2
        | left s2 => exact absurd hr (hl _ _ _)
        | err n => simp
def outRes (n : Nat) : Out → Except Int PS
  | .ok s => .ok (s.at n [])
  | .left s => .ok s
  | .err e => .error e
theorem mres_tree {c : MC} {t : T} (R : RCode c t) {s : PS} (hp : s.pc = 0) (hl : s.loops = []) (I : RInv c t s) : mres c s = outRes c.cd.length (t.run c s) := by
  have hs : s.at 0 [] = s := by cases s; simp only at hp hl; subst hp hl; rfl
  have hlen : t.size = c.cd.length := by rw [R.flat, t.flat_length]
  have h1 := runs_mres R _ s (Nat.le_refl _) I
  refine h1.uniq ?_
  have hB : BdAt c.cd c.pt 0 0 t := ⟨fun j hj => by rw [R.flat, Nat.zero_add], fun p _ _ => by rw [R.pt]; simp [ptFn]⟩
  rw [← hs] at I ⊢
  refine T.flat_runs R _ t false 8 0 0 [] s R.wf hB (by omega) (fun b l h => by cases h) ?_ I
  rw [hs, Nat.zero_add, hlen]
  cases hr : t.run c s with
  | ok s' => exact fun _ => .stop (Nat.le_refl _)
  | left s' => exact absurd hr (T.run_stays c t 8 s s' R.wf)
  | err n => rfl
end Go.Proofs.Ytefdnjhhaejgbaa

namespace Go.Proofs.Ytefdnjhhaejgbaa
open Go.RowKit
set_option linter.unusedVariables false
structure BdMem (B : Nat) (w : World) (codeA ptA : Option Addr) (cd : List RI) (pt : List Nat) : Prop where
  cd : RowB B w 5 codeA cd.length fun i j => (cd.getD i default).cell j
  pt : RowB B w 1 ptA pt.length fun i _ => .int .i64 (pt.getD i 0 : Nat)
theorem BdMem.below {B : Nat} {w w' : World} {codeA ptA : Option Addr} {cd : List RI} {pt : List Nat} (h : BdMem B w codeA ptA cd pt) (hb : Below B w w') : BdMem B w' codeA ptA cd pt := ⟨h.cd.below hb, h.pt.below hb⟩
theorem BdMem.mono {B B' : Nat} {w : World} {codeA ptA : Option Addr} {cd : List RI} {pt : List Nat} (h : BdMem B w codeA ptA cd pt) (hb : B ≤ B') : BdMem B' w codeA ptA cd pt := ⟨h.cd.mono hb, h.pt.mono hb⟩
def BoundIs (n : Nat) (codeC ptC : Nat) (codeA ptA : Option Addr) (cd : List RI) (pt : List Nat) : Prop :=
  ∀ (t : T) (k e : Nat) (wi : Bool) (d : Nat) (w : World), t.size < n → k + t.size ≤ cd.length → BdAt cd pt k e t → t.wf wi d → BdMem w.heap.size w codeA ptA cd pt →
    Calls Try.prog 33 #[.slice codeA cd.length codeC, .slice ptA pt.length ptC, .int .i64 (k : Int), .int .i64 ((k + t.size : Nat) : Int)] w fun e w' => e = .returned (.int .i64 (t.bd 0)) ∧ Below w.heap.size w w'
theorem BdMem.ins {B : Nat} {w : World} {codeA ptA : Option Addr} {cd : List RI} {pt : List Nat} (h : BdMem B w codeA ptA cd pt) {k : Nat} (hk : k < cd.length) {i : RI} (hi : cd.getD k default = i) :
    ∃ b off, codeA = some ⟨b, off, none⟩ ∧ b < B ∧ w.cell? ⟨b, off + k * 5, none⟩ = some (.int .i64 i.op) ∧ w.cell? ⟨b, off + k * 5 + 1, none⟩ = some (.int .i64 i.to) ∧ w.cell? ⟨b, off + k * 5 + 1 + 1, none⟩ = some (.int .i64 i.a) ∧
      w.cell? ⟨b, off + k * 5 + 1 + 1 + 1, none⟩ = some (.int .i64 i.b) ∧ w.cell? ⟨b, off + k * 5 + 1 + 1 + 1 + 1, none⟩ = some (.int .u32 i.arg) := by
  obtain ⟨b, off, h1, h2, h3⟩ := h.cd k hk
  simp only [hi] at h3
  exact ⟨b, off, h1, h2, h3 0 (by omega), h3 1 (by omega), h3 2 (by omega), h3 3 (by omega), h3 4 (by omega)⟩
theorem BdMem.ptc {B : Nat} {w : World} {codeA ptA : Option Addr} {cd : List RI} {pt : List Nat} (h : BdMem B w codeA ptA cd pt) {k : Nat} (hk : k < pt.length) {p : Nat} (hp : pt.getD k 0 = p) :
    ∃ b off, ptA = some ⟨b, off, none⟩ ∧ b < B ∧ w.cell? ⟨b, off + k, none⟩ = some (.int .i64 (p : Int)) := by
  obtain ⟨b, off, h1, h2, h3⟩ := h.pt k hk
  refine ⟨b, off, h1, h2, ?_⟩
  have := h3 0 (by omega)
  simp only [Nat.mul_one, Nat.add_zero, hp] at this
  exact this
theorem if_max (x y : Int) : (if x < y then y else x) = max x y := by omega
theorem if_min (x y : Int) : (if y < x then y else x) = min x y := by omega
theorem BoundIs.call {n codeC ptC : Nat} {codeA ptA : Option Addr} {cd : List RI} {pt : List Nat} (h : BoundIs n codeC ptC codeA ptA cd pt) {w0 : World} (hm : BdMem w0.heap.size w0 codeA ptA cd pt) {a : T} {k q e : Nat} {wi : Bool} {d : Nat} (hn : a.size < n) (hk : k + 1 + a.size ≤ cd.length)
    (hb : BdAt cd pt (k + 1) e a) (hw : a.wf wi d) (hq : q = k + 1 + a.size) (w : World) (hbw : Below w0.heap.size w0 w) :
    Calls Try.prog 33 #[.slice codeA cd.length codeC, .slice ptA pt.length ptC, .int .i64 ((k : Int) + 1), .int .i64 (q : Int)] w fun e w' => e = .returned (.int .i64 (a.bd 0)) ∧ Below w.heap.size w w' := by
  subst hq
  exact h a (k + 1) e wi d w hn hk hb hw ((hm.below hbw).mono hbw.size)
set_option maxRecDepth 100000 in
set_option maxHeartbeats 1000000 in
theorem bound_any (codeC ptC : Nat) (codeA ptA : Option Addr) (cd : List RI) (pt : List Nat) (hl : pt.length = cd.length) (hmax : cd.length ≤ 16384) (harg : ∀ i ∈ cd, 0 ≤ i.arg ∧ i.arg < 4294967296) : ∀ n, BoundIs n codeC ptC codeA ptA cd pt := by
  intro n
  induction n with
  | zero => intro t k e wi d w h; omega
  | succ n ih =>
    intro t k e wi d w htn hkn hbd hwf hmem
    have HI := Lib.hid ih
    have HM := Lib.hid hmem
    have HA := Lib.hid harg
    obtain ⟨res, hres⟩ : ∃ res, t.bd 0 = res := ⟨_, rfl⟩
    rw [hres]
    have hst : BdRel cd pt (k + t.size) res w (.int .i64 0) (.int .i64 (k : Int)) w := ⟨k, 0, t, e, wi, d, rfl, rfl, rfl, hbd, hwf, hres, by omega, by unfold BY; omega, Below.refl _ _⟩
    have HST := Lib.hid hst
    have HLL := Lib.hid hl
    obtain ⟨hi, hhi⟩ : ∃ hi, k + t.size = hi := ⟨_, rfl⟩
    rw [hhi] at HST hkn ⊢
    have htn' : ∀ r : T, ∀ k', k ≤ k' → k' + r.size = hi → r.size ≤ t.size := fun r k' h1 h2 => by omega
    clear ih hmem harg hbd hwf hst hl hres
    go_enter Try.func33, Try.ntmps33
    go_wp2_with fail
    go_loopw [9, 10] (fun n i wr => BdRel cd pt hi res w n i wr ∧ (k : Int) ≤ intOf i) (fun _ i _ => hi - (intOf i).toNat)
    case atStart => exact ⟨HST.out, by simp [intOf]⟩
    case round =>
      obtain ⟨⟨k', acc, r, e', wi', d', rfl, rfl, hsz, hbd, hwf, hres, ha0, ha1, hbel⟩, hkk⟩ := hrel
      have hkk' : k ≤ k' := by simp [intOf] at hkk; omega
      have hrt := htn' r k' hkk' hsz
      clear HST hkk
      have hmr := HM.out.below hbel
      have hba : acc ≤ 281474976710657 := ha1
      cases r with
      | nil =>
        simp only [T.size, Nat.add_zero] at hsz
        subst hsz
        simp only [T.bd] at hres
        subst hres
        have HB := Lib.hid hbel
        clear hbel hmr hbd hwf hrt
        go_wp2
        go_ret
        exact ⟨rfl, HB.out⟩
      | plain i r =>
        have hsz' : k' + (r.size + 1) = hi := hsz
        have hk' : k' < cd.length := by omega
        obtain ⟨b, off, rfl, hb, c0, c1, c2, c3, c4⟩ := hmr.ins hk' hbd.cd.head
        have hbw : b < wr.heap.size := Nat.lt_of_lt_of_le hb hbel.size
        have hkI : (0 : Int) ≤ (k' : Int) ∧ (k' : Int) < (cd.length : Int) ∧ (k' : Int) < (hi : Int) := by omega
        have q27 : (i.op == 27) = false := by simpa using hwf.1.1
        have q29 : (i.op == 29) = false := by simpa using hwf.1.2.2.1
        have HX := Lib.hid (show BdRel cd pt hi res w (.int .i64 (min (acc + 1) 281474976710657)) (.int .i64 ((k' : Int) + 1)) (wr.alloc (.cells #[.int .i64 i.op, .int .i64 i.to, .int .i64 i.a, .int .i64 i.b, .int .u32 i.arg] 61)) from
          ⟨k' + 1, _, r, e', wi', d', by simp, rfl, by omega, hbd.plainR, hwf.2.2, hres, by omega, by unfold BY; omega, hbel.alloc hbel.size _⟩)
        clear hbd hwf hres hbel hmr hrt hsz hsz'
        go_wp2
        go_roundw
        case rel => exact ⟨by rw [if_min]; exact HX.out, by simp [intOf]; omega⟩
        case measure => simp [intOf]; omega
      | ite i a j r =>
        have hsz' : k' + (a.size + r.size + 2) = hi := hsz
        have hk' : k' < cd.length := by omega
        obtain ⟨hba', hbr, hpk, hcj⟩ := hbd.iteA
        obtain ⟨q, hq⟩ : ∃ q, q = k' + 1 + a.size := ⟨_, rfl⟩
        have hqe : k' + a.size + 1 = q := by omega
        rw [hqe] at hpk hcj
        obtain ⟨b, off, rfl, hb, c0, c1, c2, c3, c4⟩ := hmr.ins hk' hbd.cd.head
        obtain ⟨b2, off2, rfl, hb2, p0⟩ := hmr.ptc (show k' < pt.length by rw [HLL.out]; omega) hpk
        have hqn : q < cd.length := by omega
        obtain ⟨b3, off3, hb3, _, j0, _⟩ := HM.out.ins hqn hcj
        simp only [Option.some.injEq, Addr.mk.injEq] at hb3
        obtain ⟨rfl, rfl, _⟩ := hb3
        have hbw : b < wr.heap.size := Nat.lt_of_lt_of_le hb hbel.size
        have hbw2 : b2 < wr.heap.size := Nat.lt_of_lt_of_le hb2 hbel.size
        have hkI : (0 : Int) ≤ (k' : Int) ∧ (k' : Int) < (cd.length : Int) ∧ (k' : Int) < (hi : Int) ∧ (k' : Int) < (pt.length : Int) := by rw [HLL.out]; omega
        have hqI : (0 : Int) ≤ (q : Int) ∧ (q : Int) < (cd.length : Int) := by omega
        have q27 : (i.op == 27) = true := by simpa using hwf.1
        have q28 : (j.op == 28) = false := by rw [hwf.2.1]; rfl
        have hra := T.bd_range True a 0 (flat_arg HA.out hba'.cd (by omega)) (by unfold BY; omega)
        have hCA := HI.out.call HM.out (w0 := w) (a := a) (k := k') (q := q) (by simp only [T.size] at hrt; omega) (by omega) hba' hwf.2.2.2.1 hq
        obtain ⟨xa, hxa⟩ : ∃ xa, a.bd 0 = xa := ⟨_, rfl⟩
        rw [hxa] at hCA hra
        simp only [T.bd, hxa] at hres
        have hra1 : 0 ≤ xa ∧ xa ≤ 281474976710657 := hra
        have hmx : max xa 0 = xa := by omega
        rw [hmx] at hres
        have HX := Lib.hid (show ∀ wz, Below w.heap.size w wz → BdRel cd pt hi res w (.int .i64 (min (acc + 1 + xa) 281474976710657)) (.int .i64 ((q : Int) + 1)) wz from fun wz hz =>
          ⟨q + 1, _, r, e', wi', d', by simp, rfl, by omega, by rw [show q + 1 = k' + a.size + 2 by omega]; exact hbr, hwf.2.2.2.2, hres, by omega, by unfold BY; omega, hz⟩)
        have HC := Lib.hid hCA
        have HB := Lib.hid hbel
        have HJ := Lib.hid j0
        have HBB := Lib.hid (And.intro hb hba')
        have hkq : k' < q ∧ q < hi := by omega
        clear hbd hwf hres hbel hmr hrt hsz hsz' hCA hpk hcj hxa hba' hbr hra j0 hqe hq hmx
        go_wp2_with fail
        refine (HC.out _ (HB.out.alloc HB.out.size _)).mono ?_
        rintro e X ⟨rfl, hbX⟩
        have hwX : Below w.heap.size w X := (HB.out.alloc HB.out.size _).trans (hbX.mono (by have := HB.out.size; simp; omega))
        have jX : X.cell? ⟨b, off + q * 5, none⟩ = some (.int .i64 j.op) := by rw [hwX.cell (p := ⟨b, off + q * 5, none⟩) HBB.out.1]; exact HJ.out
        have HWX := Lib.hid hwX
        clear hbX hwX
        go_wp2
        go_roundw
        case rel => exact ⟨by rw [if_min]; exact HX.out _ HWX.out, by simp [intOf]; omega⟩
        case measure => simp [intOf]; omega
      | ite2 i a x b3 j r =>
        have hsz' : k' + (a.size + b3.size + r.size + 3) = hi := hsz
        have hk' : k' < cd.length := by omega
        obtain ⟨hba', hbb', hbr, hpk, hpx, hcx⟩ := hbd.ite2A
        obtain ⟨q, hq⟩ : ∃ q, q = k' + 1 + a.size := ⟨_, rfl⟩
        obtain ⟨q2, hq2⟩ : ∃ q2, q2 = q + 1 + b3.size := ⟨_, rfl⟩
        have hqe : k' + a.size + 1 = q := by omega
        have hqe2 : k' + a.size + b3.size + 2 = q2 := by omega
        have hqe3 : k' + a.size + 2 = q + 1 := by omega
        rw [hqe] at hpk hpx hcx
        rw [hqe2] at hpx
        rw [hqe3] at hbb'
        obtain ⟨b, off, rfl, hb, c0, c1, c2, c3, c4⟩ := hmr.ins hk' hbd.cd.head
        obtain ⟨b2, off2, rfl, hb2, p0⟩ := hmr.ptc (show k' < pt.length by rw [HLL.out]; omega) hpk
        have hqn : q < cd.length := by omega
        obtain ⟨b4, off4, hb4, _, j0, _⟩ := HM.out.ins hqn hcx
        simp only [Option.some.injEq, Addr.mk.injEq] at hb4
        obtain ⟨rfl, rfl, _⟩ := hb4
        obtain ⟨b5, off5, hb5, _, p1⟩ := HM.out.ptc (show q < pt.length by rw [HLL.out]; omega) hpx
        simp only [Option.some.injEq, Addr.mk.injEq] at hb5
        obtain ⟨rfl, rfl, _⟩ := hb5
        have hbw : b < wr.heap.size := Nat.lt_of_lt_of_le hb hbel.size
        have hbw2 : b2 < wr.heap.size := Nat.lt_of_lt_of_le hb2 hbel.size
        have hkI : (0 : Int) ≤ (k' : Int) ∧ (k' : Int) < (cd.length : Int) ∧ (k' : Int) < (hi : Int) ∧ (k' : Int) < (pt.length : Int) := by rw [HLL.out]; omega
        have hqI : (0 : Int) ≤ (q : Int) ∧ (q : Int) < (cd.length : Int) ∧ (q : Int) < (pt.length : Int) := by rw [HLL.out]; omega
        have q27 : (i.op == 27) = true := by simpa using hwf.1
        have q28 : (x.op == 28) = true := by rw [hwf.2.1]; rfl
        have hra := T.bd_range True a 0 (flat_arg HA.out hba'.cd (by omega)) (by unfold BY; omega)
        have hrb := T.bd_range True b3 0 (flat_arg HA.out hbb'.cd (by omega)) (by unfold BY; omega)
        have hCA := HI.out.call HM.out (w0 := w) (a := a) (k := k') (q := q) (by simp only [T.size] at hrt; omega) (by omega) hba' hwf.2.2.2.2.1 hq
        have hCB := HI.out.call HM.out (w0 := w) (a := b3) (k := q) (q := q2) (by simp only [T.size] at hrt; omega) (by omega) hbb' hwf.2.2.2.2.2.1 hq2
        obtain ⟨xa, hxa⟩ : ∃ xa, a.bd 0 = xa := ⟨_, rfl⟩
        obtain ⟨xb, hxb⟩ : ∃ xb, b3.bd 0 = xb := ⟨_, rfl⟩
        rw [hxa] at hCA hra
        rw [hxb] at hCB hrb
        simp only [T.bd, hxa, hxb] at hres
        have hra1 : 0 ≤ xa ∧ xa ≤ 281474976710657 := hra
        have hrb1 : 0 ≤ xb ∧ xb ≤ 281474976710657 := hrb
        have HX := Lib.hid (show ∀ wz, Below w.heap.size w wz → BdRel cd pt hi res w (.int .i64 (min (acc + 1 + max xa xb) 281474976710657)) (.int .i64 ((q2 : Int) + 1)) wz from fun wz hz =>
          ⟨q2 + 1, _, r, e', wi', d', by simp, rfl, by omega, by rw [show q2 + 1 = k' + a.size + b3.size + 3 by omega]; exact hbr, hwf.2.2.2.2.2.2, hres, by omega, by unfold BY; omega, hz⟩)
        have HC := Lib.hid hCA
        have HC2 := Lib.hid hCB
        have HB := Lib.hid hbel
        have HJ := Lib.hid (And.intro j0 p1)
        have HBB := Lib.hid (And.intro hb hb2)
        have hkq : k' < q ∧ q < q2 ∧ q2 < hi := by omega
        clear hbd hwf hres hbel hmr hrt hsz hsz' hCA hCB hpk hpx hcx hxa hxb hba' hbb' hbr hra hrb j0 p1 hqe hqe2 hqe3 hq hq2
        go_wp2_with fail
        refine (HC.out _ (HB.out.alloc HB.out.size _)).mono ?_
        rintro e X ⟨rfl, hbX⟩
        have hwX : Below w.heap.size w X := (HB.out.alloc HB.out.size _).trans (hbX.mono (by have := HB.out.size; simp; omega))
        have jX : X.cell? ⟨b, off + q * 5, none⟩ = some (.int .i64 x.op) := by rw [hwX.cell (p := ⟨b, off + q * 5, none⟩) HBB.out.1]; exact HJ.out.1
        have pX : X.cell? ⟨b2, off2 + q, none⟩ = some (.int .i64 (q2 : Int)) := by rw [hwX.cell (p := ⟨b2, off2 + q, none⟩) HBB.out.2]; exact HJ.out.2
        have HWX := Lib.hid hwX
        clear hbX hwX
        go_wp2_with fail
        refine (HC2.out X HWX.out).mono ?_
        rintro e Y ⟨rfl, hbY⟩
        have hwY : Below w.heap.size w Y := HWX.out.trans (hbY.mono HWX.out.size)
        have pY : Y.cell? ⟨b2, off2 + q, none⟩ = some (.int .i64 (q2 : Int)) := by rw [hwY.cell (p := ⟨b2, off2 + q, none⟩) HBB.out.2]; exact HJ.out.2
        have HWY := Lib.hid hwY
        clear hbY hwY
        go_wp2
        go_roundw
        case rel => exact ⟨by rw [if_max, if_min]; exact HX.out _ HWY.out, by simp [intOf]; omega⟩
        case measure => simp [intOf]; omega
      | loop i a j r =>
        have hsz' : k' + (a.size + r.size + 2) = hi := hsz
        have hk' : k' < cd.length := by omega
        obtain ⟨hba', hbr, hpk⟩ := hbd.loopA
        obtain ⟨q, hq⟩ : ∃ q, q = k' + 1 + a.size := ⟨_, rfl⟩
        have hqe : k' + a.size + 1 = q := by omega
        rw [hqe] at hpk
        obtain ⟨b, off, rfl, hb, c0, c1, c2, c3, c4⟩ := hmr.ins hk' hbd.cd.head
        obtain ⟨b2, off2, rfl, hb2, p0⟩ := hmr.ptc (show k' < pt.length by rw [HLL.out]; omega) hpk
        have hbw : b < wr.heap.size := Nat.lt_of_lt_of_le hb hbel.size
        have hbw2 : b2 < wr.heap.size := Nat.lt_of_lt_of_le hb2 hbel.size
        have hkI : (0 : Int) ≤ (k' : Int) ∧ (k' : Int) < (cd.length : Int) ∧ (k' : Int) < (hi : Int) ∧ (k' : Int) < (pt.length : Int) := by rw [HLL.out]; omega
        have q27 : (i.op == 27) = false := by rw [hwf.1]; rfl
        have q29 : (i.op == 29) = true := by rw [hwf.1]; rfl
        have hai := HA.out i (by
          have := hbd.cd.head
          rw [← this, List.getD_eq_getElem?_getD, List.getElem?_eq_getElem hk']; exact List.getElem_mem hk')
        have hra := T.bd_range True a 0 (flat_arg HA.out hba'.cd (by omega)) (by unfold BY; omega)
        have hCA := HI.out.call HM.out (w0 := w) (a := a) (k := k') (q := q) (by simp only [T.size] at hrt; omega) (by omega) hba' hwf.2.2.2.1 hq
        obtain ⟨xa, hxa⟩ : ∃ xa, a.bd 0 = xa := ⟨_, rfl⟩
        rw [hxa] at hCA hra
        simp only [T.bd, hxa] at hres
        have hra1 : 0 ≤ xa ∧ xa ≤ 281474976710657 := hra
        have hkq : k' < q ∧ q < hi := by omega
        have HX := Lib.hid (show ∀ (m : Int) wz, min (if BY / (1 + xa) < i.arg then BY else acc + 1 + i.arg * (1 + xa)) BY = m → 0 ≤ m → m ≤ BY → Below w.heap.size w wz → BdRel cd pt hi res w (.int .i64 m) (.int .i64 ((q : Int) + 1)) wz from fun m wz hm h0 h1 hz =>
          ⟨q + 1, m, r, e', wi', d', by simp, rfl, by omega, by rw [show q + 1 = k' + a.size + 2 by omega]; exact hbr, hwf.2.2.2.2, by rw [← hm]; exact hres, h0, h1, hz⟩)
        have HC := Lib.hid hCA
        have HB := Lib.hid hbel
        have HJ := Lib.hid p0
        have HBB := Lib.hid (And.intro hb2 hbel)
        clear hbd hwf hres hbel hmr hrt hsz hsz' hCA hpk hxa hba' hbr hra hqe hq
        by_cases hgt : 281474976710657 / (1 + xa) < i.arg
        · go_wp2_with fail
          refine (HC.out _ (HB.out.alloc HB.out.size _)).mono ?_
          rintro e X ⟨rfl, hbX⟩
          have hwX : Below w.heap.size w X := (HB.out.alloc HB.out.size _).trans (hbX.mono (by have := HB.out.size; simp; omega))
          have hX4 : X.cell? ⟨wr.heap.size, 4, none⟩ = some (.int .u32 i.arg) := by
            rw [hbX.cell (p := ⟨wr.heap.size, 4, none⟩) (by simp)]
            simp [go_sem]
          have pX : X.cell? ⟨b2, off2 + k', none⟩ = some (.int .i64 (q : Int)) := by
            rw [hbX.cell (p := ⟨b2, off2 + k', none⟩) (by simp; omega), World.cell?_alloc_past _ _ _ hbw2]; exact HJ.out
          have HWX := Lib.hid hwX
          have hwl : wr.heap.size < X.heap.size := by have := hbX.size; simp at this; omega
          clear hbX hwX
          go_wp2
          go_roundw
          case rel => exact ⟨HX.out 281474976710657 X (by unfold BY; rw [if_pos hgt]; omega) (by omega) (by unfold BY; omega) HWX.out, by simp [intOf]; omega⟩
          case measure => simp [intOf]; omega
        · have hm1 : i.arg * (1 + xa) ≤ 281474976710657 := (Int.le_ediv_iff_mul_le (by omega)).1 (by omega)
          have hm0 : 0 ≤ i.arg * (1 + xa) := Int.mul_nonneg hai.1 (by omega)
          obtain ⟨mm, hmm⟩ : ∃ mm, i.arg * (1 + xa) = mm := ⟨_, rfl⟩
          rw [hmm] at hm0 hm1
          have HMM := Lib.hid hmm
          have hgt' : i.arg ≤ 281474976710657 / (1 + xa) := by omega
          go_wp2_with fail
          refine (HC.out _ (HB.out.alloc HB.out.size _)).mono ?_
          rintro e X ⟨rfl, hbX⟩
          have hwX : Below w.heap.size w X := (HB.out.alloc HB.out.size _).trans (hbX.mono (by have := HB.out.size; simp; omega))
          have hX4 : X.cell? ⟨wr.heap.size, 4, none⟩ = some (.int .u32 i.arg) := by
            rw [hbX.cell (p := ⟨wr.heap.size, 4, none⟩) (by simp)]
            simp [go_sem]
          have pX : X.cell? ⟨b2, off2 + k', none⟩ = some (.int .i64 (q : Int)) := by
            rw [hbX.cell (p := ⟨b2, off2 + k', none⟩) (by simp; omega), World.cell?_alloc_past _ _ _ hbw2]; exact HJ.out
          have HWX := Lib.hid hwX
          have hwl : wr.heap.size < X.heap.size := by have := hbX.size; simp at this; omega
          clear hbX hwX
          go_wp2
          go_roundw
          case rel => exact ⟨HX.out _ X (by unfold BY; rw [if_neg (by omega), HMM.out, if_min]) (by split <;> omega) (by unfold BY; split <;> omega) HWX.out, by simp [intOf]; omega⟩
          case measure => simp [intOf]; omega
theorem bound_all (codeC ptC : Nat) (codeA ptA : Option Addr) (t : T) (w : World) (hw : t.wf false 8) (hmax : t.flat.length ≤ 16384) (harg : ∀ i ∈ t.flat, 0 ≤ i.arg ∧ i.arg < 4294967296) (hm : BdMem w.heap.size w codeA ptA t.flat (t.pt 0 0)) :
    Calls Try.prog 33 #[.slice codeA t.flat.length codeC, .slice ptA (t.pt 0 0).length ptC, .int .i64 0, .int .i64 (t.flat.length : Int)] w fun e w' => e = .returned (.int .i64 (t.bd 0)) ∧ Below w.heap.size w w' := by
  have h := bound_any codeC ptC codeA ptA t.flat (t.pt 0 0) (by rw [t.pt_length, t.flat_length]) hmax harg (t.size + 1) t 0 0 false 8 w (by omega) (by rw [t.flat_length]; omega) ⟨fun j hj => by simp, fun p h1 h2 => by simp [ptFn]⟩ hw hm
  rw [Nat.zero_add] at h
  rw [t.flat_length] at h ⊢
  exact h
end Go.Proofs.Ytefdnjhhaejgbaa
