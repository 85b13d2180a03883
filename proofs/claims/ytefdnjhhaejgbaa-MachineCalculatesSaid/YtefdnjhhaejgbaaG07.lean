/- A part of the proof of MachineCalculates: T M2 W Rv Bd. No condition. -/
import Derived.Test.YtefdnjhhaejgbaaG01
import Derived.Test.YtefdnjhhaejgbaaG06
import Derived.Test.YtefdnjhhaejgbaaG05
import Derived.Test.YtefdnjhhaejgbaaG04
namespace Go.Proofs.Ytefdnjhhaejgbaa
open Go.RowKit
set_option linter.unusedVariables false

theorem Try.elInt : ElT Try.prog 74 3 (.int .i64 0) 1 8 := ⟨Try.underlying74, by kernel_rfl, rfl, by decide, by decide⟩

theorem run_make_int (n : Nat) (hn : n ≤ 65536) (w : World) :
    (Instr.makeSlice 74 (.int .i64 (n : Int)) (.int .i64 (n : Int))).run Try.prog w = .ok (.slice (some ⟨w.heap.size, 0, none⟩) n n) (w.alloc (.cells (natsV (List.replicate n 0)).toArray 3)) := by
  obtain ⟨i, hi, hz, h2, h3⟩ := info_parts Try.elInt.info
  rw [run_make w _ _ i (.int .i64 0) Try.underlying74 hi hz .i64 .i64 n n (by omega) (by omega) (by rw [h3]; omega) (by omega)]
  simp only [Int.toNat_natCast, h2, Nat.mul_one, natsV, List.map_replicate]
  have : (Value.int .i64 0).cells = #[.int .i64 0] := rfl
  rw [this, madeCells_one]
  rfl

theorem zero_ints (w : World) : (zeroValue 74).run Try.prog w = .ok (.slice none 0 0) w := by kernel_rfl

structure PtAt (w : World) (cd : List RI) (k : Nat) (s : PtS) (o : List NB) (τ : Nat → Nat) (es : Array MapEntry) (c : Nat) (v : Value) (wr : World) : Prop where
  mem : PtMem w s τ es c v wr
  le : k ≤ cd.length
  run : ptRun cd (cd.length - k) k s = ptRun cd cd.length 0 (ptInit cd.length)
  nest : (nestRun (cd.drop k) k o).2 = false
  len : o.length = s.opn.length
  l8 : o.length ≤ 8
  opn : ∀ x ∈ s.opn, x < k
  lvs : ∀ q, ∀ x ∈ s.lv q, x < k
  lvl : ∀ q, (s.lv q).length ≤ k
  out : s.out.length = cd.length

def PtRel (w : World) (cd : List RI) (u i : Value) (wr : World) : Prop :=
  ∃ (k : Nat) (s : PtS) (o : List NB) (τ : Nat → Nat) (es : Array MapEntry) (c : Nat) (va : Option Addr) (vc : Nat), i = .int .i64 (k : Int) ∧ u = .slice va s.opn.length vc ∧ PtAt w cd k s o τ es c (.slice va s.opn.length vc) wr

theorem PtAt.rel {w : World} {cd : List RI} {k : Nat} {s : PtS} {o : List NB} {τ : Nat → Nat} {es : Array MapEntry} {c : Nat} {v i : Value} {wr : World} (hi : i = .int .i64 ((k : Nat) : Int)) (h : PtAt w cd k s o τ es c v wr) : PtRel w cd v i wr := by
  subst hi
  obtain ⟨va, vc, rfl⟩ : ∃ va vc, v = .slice va s.opn.length vc := by
    rcases h.mem.own.2 with ⟨h1, h2⟩ | ⟨g, cc, cur, h1, _⟩
    · exact ⟨none, 0, by rw [h1, h2]⟩
    · exact ⟨_, cc, h1⟩
  exact ⟨k, s, o, τ, es, c, va, vc, rfl, rfl, h⟩

theorem nest_some {cd : List RI} {k : Nat} (hk : k < cd.length) {o : List NB} (h : (nestRun (cd.drop k) k o).2 = false) : ∃ o', nestStep (cd.getD k default).op o = some o' ∧ (nestRun (cd.drop (k + 1)) (k + 1) o').2 = false := by
  cases hs : nestStep (cd.getD k default).op o with
  | none => rw [nest_bad cd k hk o hs] at h; cases h
  | some o' => rw [nest_next cd k hk o o' hs] at h; exact ⟨o', rfl, h⟩

theorem pt_step {cd : List RI} {k : Nat} {s : PtS} (hk : k < cd.length) (h : ptRun cd (cd.length - k) k s = ptRun cd cd.length 0 (ptInit cd.length)) : ptRun cd (cd.length - (k + 1)) (k + 1) (ptStep cd k s) = ptRun cd cd.length 0 (ptInit cd.length) := by
  rw [← h, show cd.length - k = (cd.length - (k + 1)) + 1 by omega, ptRun]

/-- the next round's head, from its memory -/
theorem PtAt.next {w : World} {cd : List RI} {k : Nat} {s s' : PtS} {o o' : List NB} {τ τ' : Nat → Nat} {es es' : Array MapEntry} {c c' : Nat} {v v' : Value} {wr wr' : World} (h : PtAt w cd k s o τ es c v wr) (hk : k < cd.length)
    (hs : ptStep cd k s = s') (ho : nestStep (cd.getD k default).op o = some o') (hn : (nestRun (cd.drop (k + 1)) (k + 1) o').2 = false) (hl : o'.length = s'.opn.length) (hm : PtMem w s' τ' es' c' v' wr')
    (h1 : ∀ x ∈ s'.opn, x < k + 1) (h2 : ∀ q, ∀ x ∈ s'.lv q, x < k + 1) (h3 : ∀ q, (s'.lv q).length ≤ k + 1) : PtAt w cd (k + 1) s' o' τ' es' c' v' wr' :=
  ⟨hm, hk, by rw [← hs]; exact pt_step hk h.run, hn, hl, nestStep_len ho h.l8, h1, h2, h3, by rw [← hs, ptStep_length]; exact h.out⟩

theorem PtMem.top {w : World} {s : PtS} {l : List Nat} {p : Nat} (hs : s.opn = l ++ [p]) {τ : Nat → Nat} {es : Array MapEntry} {c : Nat} {va : Option Addr} {vc n : Nat} {wr : World} (h : PtMem w s τ es c (.slice va n vc) wr) (hn : n = l.length + 1) :
    ∃ g, va = some ⟨g, 0, none⟩ ∧ l.length + 1 ≤ vc ∧ g ≠ w.heap.size ∧ g ≠ w.heap.size + 1 ∧ g < wr.heap.size ∧ (∀ j, j < l.length + 1 → wr.cell? ⟨g, j, none⟩ = some (.int .i64 ((l ++ [p]).getD j 0 : Nat))) ∧ (∀ j, wr.frozen? ⟨g, j, none⟩ = false) := by
  subst hn
  have hown := h.own
  rw [hs, List.length_append, List.length_singleton] at hown
  obtain ⟨g, rfl⟩ : ∃ g, va = some ⟨g, 0, none⟩ := by
    rcases hown.2 with ⟨h1, h2⟩ | ⟨g, cc, cur, h1, _⟩
    · simp at h2
    · simp only [Value.slice.injEq] at h1; exact ⟨g, h1.1⟩
  have ht := h.tv g rfl
  have h1 := h.to
  have h2 := h.tm
  refine ⟨g, rfl, own_cap hown, fun e => by rw [e] at ht; omega, fun e => by rw [e] at ht; omega, (hown.lt g rfl).2, fun j hj => ?_, fun j => hown.frozenAt j⟩
  rw [hown.cellAt j (by omega), natsV_get (by simp; omega)]

theorem PtMem.outCell {w : World} {s : PtS} {τ : Nat → Nat} {es : Array MapEntry} {c : Nat} {v : Value} {wr : World} (h : PtMem w s τ es c v wr) {p : Nat} (hp : p < s.out.length) : wr.cell? ⟨w.heap.size, p, none⟩ = some (.int .i64 (s.out.getD p 0 : Nat)) := by
  rw [h.out.cell, natsV_get hp]

theorem PtMem.cast {w : World} {s s' : PtS} {τ : Nat → Nat} {es : Array MapEntry} {c : Nat} {v v' : Value} {wr : World} (h : PtMem w s τ es c v wr) (hs : s = s') (hv : v = v') : PtMem w s' τ es c v' wr := by subst hs; subst hv; exact h

theorem opn_snoc {o o' : List NB} {l : List Nat} {op : Int} (ho : nestStep op o = some o') (hop : op = 28 ∨ op = 31) (hl : o.length = l.length) : ∃ m p, l = m ++ [p] ∧ (op = 28 → o'.length = m.length + 1) ∧ (op = 31 → o'.length = m.length) := by
  rcases nil_or_snoc l with rfl | ⟨m, p, rfl⟩
  · have : o = [] := by simpa using hl
    subst this
    rcases hop with rfl | rfl <;> simp [nestStep] at ho
  · refine ⟨m, p, rfl, fun h => ?_, fun h => ?_⟩
    · subst h
      simp [nestStep] at ho
      obtain ⟨_, rfl⟩ := ho
      simp at hl ⊢
      omega
    · subst h
      simp [nestStep] at ho
      obtain ⟨_, rfl⟩ := ho
      simp at hl ⊢
      omega

theorem lastLoop_succ (cd : List RI) (l : List Nat) (m : Nat) (hm : m < l.length) : lastLoop cd (l.take (m + 1)) = if (cd.getD (l.getD m 0) default).op = 29 then some (l.getD m 0) else lastLoop cd (l.take m) := by
  rw [List.take_succ_eq_append_getElem hm]
  have : l.getD m 0 = l[m] := by rw [List.getD_eq_getElem?_getD, List.getElem?_eq_getElem hm]; rfl
  rw [this]
  simp only [lastLoop, List.reverse_append, List.reverse_cons, List.reverse_nil, List.nil_append, List.cons_append, List.find?_cons]
  split
  · rename_i h; rw [if_pos (by simpa using h)]
  · rename_i h; rw [if_neg (by simpa using h)]
theorem lastLoop_zero (cd : List RI) (l : List Nat) : lastLoop cd (l.take 0) = none := by simp [lastLoop]

theorem PtMem.opnCell {w : World} {s : PtS} {τ : Nat → Nat} {es : Array MapEntry} {c : Nat} {va : Option Addr} {vc n : Nat} {wr : World} (h : PtMem w s τ es c (.slice va n vc) wr) (hn : n = s.opn.length) {m : Nat} (hm : m < s.opn.length) :
    ∃ g, va = some ⟨g, 0, none⟩ ∧ g < wr.heap.size ∧ wr.cell? ⟨g, m, none⟩ = some (.int .i64 (s.opn.getD m 0 : Nat)) := by
  subst hn
  have hown := h.own
  obtain ⟨g, rfl⟩ : ∃ g, va = some ⟨g, 0, none⟩ := by
    rcases hown.2 with ⟨h1, h2⟩ | ⟨g, cc, cur, h1, _⟩
    · omega
    · simp only [Value.slice.injEq] at h1; exact ⟨g, h1.1⟩
  exact ⟨g, rfl, (hown.lt g rfl).2, by rw [hown.cellAt m (by omega), natsV_get hm]⟩

/-- what the floats of the leave's region look at -/
def LeaveCls (g m p mb : Nat) (es : Array MapEntry) (c : Nat) (x : World) : Prop := x.cell? ⟨g, m, none⟩ = some (.int .i64 (p : Int)) ∧ x.heap[mb]? = some (.map es c)
theorem LeaveCls.below {g m p mb : Nat} {es : Array MapEntry} {c : Nat} {x y : World} (h : LeaveCls g m p mb es c x) (hb : Below x.heap.size x y) : LeaveCls g m p mb es c y :=
  ⟨by rw [hb.cell (p := ⟨g, m, none⟩) (World.block_lt_of_cell? x _ h.1)]; exact h.1, by rw [hb.block _ (Array.getElem?_eq_some_iff.1 h.2).1]; exact h.2⟩
theorem LeaveCls.grown {g m p mb : Nat} {es : Array MapEntry} {c : Nat} {x y : World} {row : Option Nat} (h : LeaveCls g m p mb es c x) (hg : x.grownBy y row) (h1 : some g ≠ row) (h2 : some mb ≠ row) : LeaveCls g m p mb es c y :=
  ⟨by rw [World.cell?_of_block (hg.block g (World.block_lt_of_cell? x _ h.1) h1)]; exact h.1, by rw [hg.block _ (Array.getElem?_eq_some_iff.1 h.2).1 h2]; exact h.2⟩

set_option maxRecDepth 100000 in
set_option maxHeartbeats 1000000 in
theorem partners_any (a : Option Addr) (cap : Nat) (cd : List RI) (w : World) (hrow : RowB w.heap.size w 5 a cd.length fun i j => (cd.getD i default).cell j) (hmax : cd.length ≤ 16384) (hnest : (nestRun cd 0 []).2 = false) :
    Calls Try.prog 34 #[.slice a cd.length cap] w fun e w' => e = .returned (.slice (some ⟨w.heap.size, 0, none⟩) cd.length cd.length) ∧ Blk w' w.heap.size (natsV (ptOf cd)) 3 ∧ Below w.heap.size w w' := by
  have mk := run_make_int cd.length (by omega)
  have hmm := fun (t : TypeId) (w : World) => run_makeMap (P := Try.prog) t w
  have HR := Lib.hid hrow
  have start : ∀ wr, wr = (w.alloc (.cells (natsV (List.replicate cd.length 0)).toArray 3)).alloc (.map #[] 0) → PtRel w cd (.slice none 0 0) (.int .i64 0) wr := by
    rintro wr rfl
    refine PtAt.rel (k := 0) (s := ptInit cd.length) (o := []) (τ := fun x => if x = w.heap.size then 1 else 3) (es := #[]) (c := 0) rfl ⟨⟨?_, heap_new2 _ _ _, World.ownsRow_nil _ _ _ _, rfl, fun q => .inl ⟨rfl, rfl⟩, if_pos rfl, by rw [if_neg (by omega)], fun g hg => by simp [Value.ownBlock] at hg, ((Below.refl _ _).alloc (by simp) _).alloc (by simp) _⟩, by omega, rfl, by simpa using hnest, rfl, by simp, fun x hx => by simp [ptInit] at hx, fun q x hx => by simp [ptInit] at hx, fun q => by simp [ptInit], by simp [ptInit]⟩
    unfold Blk
    rw [Below.heap_alloc _ _ _ (by simp)]
    exact heap_new1 _ _
  have HST := Lib.hid start
  clear hrow start hnest
  go_enter Try.func34, Try.ntmps34
  go_wp2_with fail
  go_loopw [4, 18] (fun v i wr => PtRel w cd v i wr) (fun _ i _ => cd.length - (intOf i).toNat)
  case atStart => exact HST.out _ rfl
  case round =>
    obtain ⟨k, s, o, τ, es, c, va, vc, rfl, rfl, PA⟩ := hrel
    have hkl := PA.le
    clear HST mk hmm
    by_cases hk : k < cd.length
    · obtain ⟨b, off, rfl, hb, hc⟩ := HR.out k hk
      have hk' := nat_cast_ltQ hk
      have hbw : b < wr.heap.size := Nat.lt_of_lt_of_le hb PA.mem.bel.size
      obtain ⟨o', ho', hn'⟩ := nest_some hk PA.nest
      have hc2 : ∀ j, j < 5 → wr.cell? ⟨b, off + k * 5 + j, none⟩ = some ((cd.getD k default).cell j) := fun j hj => by rw [PA.mem.bel.cell (p := ⟨b, off + k * 5 + j, none⟩) hb]; exact hc j hj
      obtain ⟨ins, hins⟩ : ∃ ins, cd.getD k default = ins := ⟨_, rfl⟩
      rw [hins] at hc2
      obtain ⟨op, to, ra, rb, arg⟩ := ins
      have k0 : wr.cell? ⟨b, off + k * 5, none⟩ = some (.int .i64 op) := hc2 0 (by omega)
      have k1 : wr.cell? ⟨b, off + k * 5 + 1, none⟩ = some (.int .i64 to) := hc2 1 (by omega)
      have k2 : wr.cell? ⟨b, off + k * 5 + 1 + 1, none⟩ = some (.int .i64 ra) := hc2 2 (by omega)
      have k3 : wr.cell? ⟨b, off + k * 5 + 1 + 1 + 1, none⟩ = some (.int .i64 rb) := hc2 3 (by omega)
      have k4 : wr.cell? ⟨b, off + k * 5 + 1 + 1 + 1 + 1, none⟩ = some (.int .u32 arg) := hc2 4 (by omega)
      clear hc2 hc
      have hop : (cd.getD k default).op = op := by rw [hins]
      have HOP := Lib.hid hop
      have HO := Lib.hid (And.intro ho' hn')
      have HPA := Lib.hid PA
      have hbz : Below wr.heap.size wr (wr.alloc (.cells #[.int .i64 op, .int .i64 to, .int .i64 ra, .int .i64 rb, .int .u32 arg] 61)) := (Below.refl _ _).alloc (Nat.le_refl _) _
      have HZ := Lib.hid (PA.mem.below hbz)
      have hopl : s.opn.length ≤ 8 := by rw [← PA.len]; exact PA.l8
      have hws := PA.mem.bel.size
      clear hop hins ho' hn' PA hbz
      by_cases o27 : op = 27 ∨ op = 29
      · have hs : ptStep cd k s = { s with opn := s.opn ++ [k] } := by unfold ptStep; simp only [HOP.out]; rw [if_pos o27]
        have hl : o'.length = (s.opn ++ [k]).length := by
          have := HO.out.1
          rw [HOP.out] at this
          have e1 := HPA.out.len
          unfold nestStep at this
          rcases o27 with rfl | rfl <;> simp at this <;> (obtain ⟨_, rfl⟩ := this; simp [e1])
        have HS := Lib.hid (And.intro hs hl)
        clear hs hl
        rcases o27 with rfl | rfl
        all_goals
          go_wp2_with (at_builtin; refine wpList_app1 Try.elInt rfl _ _ rfl w.heap.size (.slice va s.opn.length vc) s.opn.length _ rfl (HZ.out.own.alloc _) (wr.heap.size + 1) [.int .i64 (k : Int)] (0, 0) rfl (heap_new2 wr _ _) rfl (by simp [Value.oneCell']) (by omega) (by simp; omega) ?_)
          intro g' c' w' hown' hgrow hat hlt
          have PX := HPA.out.next hk HS.out.1 HO.out.1 HO.out.2 HS.out.2 (HZ.out.push rfl ((Below.refl _ _).alloc (Nat.le_refl _) _) hown' hgrow (by simpa using hat))
            (fun x hx => by simp only [List.mem_append, List.mem_singleton] at hx; rcases hx with hx | hx; have := HPA.out.opn x hx; omega; omega) (fun q x hx => Nat.lt_succ_of_lt (HPA.out.lvs q x hx)) (fun q => Nat.le_succ_of_le (HPA.out.lvl q))
          have HX := Lib.hid PX
          clear hown' hgrow hat hlt PX
          go_wp2
          go_roundw
          case rel => exact PtAt.rel (by simp) HX.out
          case measure => simp [intOf]; omega
      have n27 : ¬ op = 27 := fun e => o27 (.inl e)
      have n29 : ¬ op = 29 := fun e => o27 (.inr e)
      have q27 : (op == 27) = false := by simpa using n27
      have q29 : (op == 29) = false := by simpa using n29
      clear o27
      by_cases o28 : op = 28
      · subst o28
        obtain ⟨l, p, hl, hl28, _⟩ := opn_snoc HO.out.1 (.inl HOP.out) HPA.out.len
        have hll := hl28 HOP.out
        have hlen : s.opn.length = l.length + 1 := by rw [hl]; simp
        obtain ⟨g, rfl, hcap, hg1, hg2, hgl, htc, hfz⟩ := HPA.out.mem.top hl hlen
        have hpk : p < k := HPA.out.opn p (by rw [hl]; simp)
        have t0 : wr.cell? ⟨g, l.length, none⟩ = some (.int .i64 (p : Int)) := by have := htc l.length (by omega); simpa using this
        have z0 := hfz l.length
        have c0 := HPA.out.mem.outCell (p := p) (by rw [HPA.out.out]; omega)
        have y0 := HPA.out.mem.out.frozen p
        have hwl : w.heap.size < wr.heap.size := HPA.out.mem.out.lt
        have hp' : (0 : Int) ≤ (p : Int) ∧ (p : Int) < (cd.length : Int) := by omega
        have hs : ptStep cd k s = ⟨s.out.set p k, l ++ [k], s.lv⟩ := by unfold ptStep; simp only [HOP.out]; simp [hl]
        have pm : PtMem w ⟨s.out.set p k, l ++ [k], s.lv⟩ τ es c (.slice (some ⟨g, 0, none⟩) (l.length + 1) vc) (((wr.setCell ⟨w.heap.size, p, none⟩ (.int .i64 (k : Int))).setCell ⟨g, l.length, none⟩ (.int .i64 (k : Int)))) :=
          ((HPA.out.mem.setOut p k).setTop l.length k hg1 hg2).cast (by simp [hl]) (by simp [hl])
        have PX := HPA.out.next hk hs HO.out.1 HO.out.2 (by rw [hll]; simp) (pm.below ((Below.refl _ _).alloc (Nat.le_refl _) (.cells #[.int .i64 28, .int .i64 to, .int .i64 ra, .int .i64 rb, .int .u32 arg] 61)))
          (fun x hx => by simp only [List.mem_append, List.mem_singleton] at hx; rcases hx with hx | hx; have := HPA.out.opn x (by rw [hl]; simp [hx]); omega; omega) (fun q x hx => Nat.lt_succ_of_lt (HPA.out.lvs q x hx)) (fun q => Nat.le_succ_of_le (HPA.out.lvl q))
        have HX := Lib.hid PX
        clear PX pm hs htc hfz hl hl28 hll
        rw [hlen]
        have hlb : l.length + 1 ≤ 8 := by omega
        clear hlen
        go_wp2
        go_roundw
        case rel => exact PtAt.rel (by simp) HX.out
        case measure => simp [intOf]; omega
      have q28 : (op == 28) = false := by simpa using o28
      by_cases o30 : op = 30
      · subst o30
        have ho : o'.length = o.length := by
          have := HO.out.1
          rw [HOP.out] at this
          simp [nestStep] at this
          obtain ⟨_, rfl⟩ := this
          rfl
        have hs : ptStep cd k s = match lastLoop cd s.opn with | some p => { s with lv := fun q => if q = p then s.lv q ++ [k] else s.lv q } | none => s := by
          unfold ptStep
          simp only [HOP.out]
          rw [if_neg (by decide), if_neg (by decide), if_pos trivial]
          cases lastLoop cd s.opn <;> rfl
        have hsk : ∀ wz, PtMem w s τ es c (.slice va s.opn.length vc) wz → lastLoop cd s.opn = none → PtRel w cd (.slice va s.opn.length vc) (.int .i64 ((k : Int) + 1)) wz := fun wz hz hnone =>
          PtAt.rel (by simp) (HPA.out.next hk (s' := s) (by rw [hs, hnone]) HO.out.1 HO.out.2 (by rw [ho]; exact HPA.out.len) hz (fun x hx => Nat.lt_succ_of_lt (HPA.out.opn x hx)) (fun q x hx => Nat.lt_succ_of_lt (HPA.out.lvs q x hx)) (fun q => Nat.le_succ_of_le (HPA.out.lvl q)))
        have hyes : ∀ p wz τ' es' c', PtMem w { s with lv := fun q => if q = p then s.lv q ++ [k] else s.lv q } τ' es' c' (.slice va s.opn.length vc) wz → lastLoop cd s.opn = some p → PtRel w cd (.slice va s.opn.length vc) (.int .i64 ((k : Int) + 1)) wz := fun p wz τ' es' c' hz hsome =>
          PtAt.rel (by simp) (HPA.out.next hk (s' := { s with lv := fun q => if q = p then s.lv q ++ [k] else s.lv q }) (by rw [hs, hsome]) HO.out.1 HO.out.2 (by rw [ho]; exact HPA.out.len) hz (fun x hx => Nat.lt_succ_of_lt (HPA.out.opn x hx))
            (fun q x hx => by
              simp only at hx
              split at hx
              · simp only [List.mem_append, List.mem_singleton] at hx
                rcases hx with hx | hx
                · exact Nat.lt_succ_of_lt (HPA.out.lvs q x hx)
                · omega
              · exact Nat.lt_succ_of_lt (HPA.out.lvs q x hx))
            (fun q => by
              have := HPA.out.lvl q
              simp only
              split
              · simp; omega
              · omega))
        have HSK := Lib.hid hsk
        have HYES := Lib.hid hyes
        have HOPN := Lib.hid HPA.out.opn
        have HLVL := Lib.hid HPA.out.lvl
        clear hs hsk hyes ho
        go_upto_region 15 with (fail)
        refine wp_gen _ HZ.out ?_
        intro Z PZ
        have HPZ := Lib.hid PZ
        have hbZ : b < Z.heap.size := Nat.lt_of_lt_of_le hb PZ.bel.size
        clear k0 k1 k2 k3 k4 HZ HPA hbw PZ
        go_wp2_with fail
        go_loop [8] (fun i => ∃ j : Nat, j ≤ s.opn.length ∧ i = .int .i64 ((j : Int) - 1) ∧ Hid (lastLoop cd s.opn = lastLoop cd (s.opn.take j))) (fun i => (intOf i + 1).toNat)
        case atStart => exact ⟨s.opn.length, Nat.le_refl _, rfl, Lib.hid (by rw [List.take_length])⟩
        case round =>
          obtain ⟨j, hj, rfl, hL⟩ := hrel
          cases j with
          | zero =>
            have HX := Lib.hid (HSK.out Z HPZ.out (hL.out.trans (lastLoop_zero _ _)))
            clear hL
            go_wp2
            go_roundw
            case rel => exact HX.out
            case measure => simp [intOf]; omega
          | succ m =>
            have em : (((m + 1 : Nat) : Int) - 1) = (m : Int) := by omega
            rw [em]
            clear em
            have hm : m < s.opn.length := by omega
            have hm' := nat_cast_ltQ hm
            obtain ⟨g, hva, hgl, hgc⟩ := HPZ.out.opnCell rfl hm
            have hls := lastLoop_succ cd s.opn m hm
            obtain ⟨p, hp⟩ : ∃ p, s.opn.getD m 0 = p := ⟨_, rfl⟩
            have hpk : p < k := HOPN.out p (by rw [← hp, List.getD_eq_getElem?_getD, List.getElem?_eq_getElem hm]; exact List.getElem_mem hm)
            rw [hp] at hgc hls
            obtain ⟨b1, off1, hb1, _, hc1⟩ := HR.out p (by omega)
            simp only [Option.some.injEq, Addr.mk.injEq] at hb1
            obtain ⟨rfl, rfl, _⟩ := hb1
            obtain ⟨ip, hip⟩ : ∃ ip, cd.getD p default = ip := ⟨_, rfl⟩
            have cp : Z.cell? ⟨b, off + p * 5, none⟩ = some (.int .i64 ip.op) := by
              have := hc1 0 (by omega)
              simp only [hip] at this
              rw [HPZ.out.bel.cell (p := ⟨b, off + p * 5, none⟩) hb]; exact this
            have hp' : (0 : Int) ≤ (p : Int) ∧ (p : Int) < (cd.length : Int) := by omega
            obtain ⟨opp, hopp⟩ : ∃ opp, ip.op = opp := ⟨_, rfl⟩
            rw [hopp] at cp
            have HLS := Lib.hid (show lastLoop cd s.opn = if opp = 29 then some p else lastLoop cd (s.opn.take m) by rw [hL.out, hls, hip, hopp])
            have HVA := Lib.hid hva
            clear hc1 hip hopp hls hL hp
            by_cases h29 : opp = 29
            · subst h29
              subst hva
              have hsome : lastLoop cd s.opn = some p := by rw [HLS.out, if_pos rfl]
              have HSO := Lib.hid hsome
              obtain ⟨ls, hls⟩ : ∃ ls, s.lv p = ls := ⟨_, rfl⟩
              obtain ⟨lvv, hlvv, hlvo, hlv4⟩ : ∃ lvv, (atInt (p : Int) es.toList).getD (.slice none 0 0) = lvv ∧ Z.ownsRow w.heap.size 3 1 lvv ls.length (natsV ls) ∧
                  ((s.lv p = [] ∧ lvv = .slice none 0 0) ∨ (∃ g cc, lvv = .slice (some ⟨g, 0, none⟩) ls.length cc ∧ τ g = 10 + p ∧ w.heap.size ≤ g)) := by
                rcases HPZ.out.lvs p with ⟨h1, h2⟩ | ⟨gl, cl, h1, h2, h3⟩
                · exact ⟨_, rfl, by rw [h2, ← hls, h1]; exact World.ownsRow_nil _ _ _ _, .inl ⟨h1, by rw [h2]; rfl⟩⟩
                · rw [hls] at h1 h2
                  exact ⟨_, rfl, by rw [h1]; exact h2, .inr ⟨gl, cl, by rw [h1]; rfl, h3, (h2.lt gl rfl).1⟩⟩
              have hll : ls.length ≤ k := by rw [← hls]; exact HLVL.out p
              have HLV := Lib.hid (And.intro hls (And.intro hlvo hlv4))
              have hcls : LeaveCls g m p (w.heap.size + 1) es c Z := ⟨hgc, HPZ.out.map⟩
              have _inst : Nonempty (CWorld (LeaveCls g m p (w.heap.size + 1) es c)) := ⟨⟨Z, hcls⟩⟩
              have p0 : ∀ q : CWorld (LeaveCls g m p (w.heap.size + 1) es c), q.w.cell? ⟨g, m, none⟩ = some (.int .i64 (p : Int)) := fun q => q.h.1
              have p1 : ∀ q : CWorld (LeaveCls g m p (w.heap.size + 1) es c), (Instr.lookup 93 (.map (some (w.heap.size + 1))) (.int .i64 (p : Int)) false).run Try.prog q.w = .ok lvv q.w := fun q => by
                rw [← hlvv]
                exact run_look_int (P := Try.prog) (T := 93) Try.underlying93 Try.underlying3 q.w (w.heap.size + 1) es c q.h.2 (p : Int) HPZ.out.keys (.slice none 0 0) (zero_ints _)
              have HCL := Lib.hid hcls
              clear hlvv hls hlvo hlv4 hsome hcls
              have hZs : w.heap.size ≤ Z.heap.size := HPZ.out.bel.size
              go_wp2_with fail
              refine wp_region_mix (Cls (LeaveCls g m p (w.heap.size + 1) es c)) [4, 9, 10] [0, 1, 2, 3, 5, 6, 7, 8, 11] [(2, 0), (2, 1), (2, 2), (2, 3), (2, 5), (2, 6), (2, 7), (2, 8), (2, 11), (1, 4), (1, 9), (1, 10), (0, 12), (0, 13), (0, 14)] (by kernel_rfl) (by kernel_rfl) (fun c a d v w h => by cases d <;> exact h) ⟨⟨Z.drew, HCL.out.1, HCL.out.2⟩, rfl⟩ ?_
              simp only [getPlan, List.filterMap_cons, List.filterMap_nil, List.getElem?_toArray, List.getElem?_cons_succ, List.getElem?_cons_zero, Option.map_some]
              repeat ((first | refine wpPlan_pure (fun K hK => ?_) | refine wpPlan_float (fun K hK => ?_)); go_simp; refine hK _ ?_; clear hK K)
              clear p0 p1
              have hbn : Below Z.heap.size Z (Z.alloc (.cells #[.int .i64 (k : Int)] 3)).drew := ((Below.refl _ _).alloc (Nat.le_refl _) _).drew
              have HBN := Lib.hid (And.intro hbn (heap_new1 Z (.cells #[.int .i64 (k : Int)] 3)))
              clear hbn
              refine wpPlan_keep ?_
              go_wp2_with fail
              refine ⟨⟨CWorld.mk _ (HCL.out.below HBN.out.1), rfl⟩, ?_⟩
              refine wpPlan_gen (fun y => Below Z.heap.size Z y ∧ y.heap[Z.heap.size]? = some (.cells [.int .i64 (k : Int)].toArray 3 (0, 0))) HBN.out ?_
              rintro y ⟨hby, hyk⟩
              clear HBN
              have hyo := HLV.out.2.1.kept (grownBy_of_below hby none) (by cases hv : lvv.ownBlock <;> simp)
              have hys := hby.size
              refine wpPlan_keep ?_
              refine wpList_app1 Try.elInt rfl _ _ rfl w.heap.size lvv ls.length _ rfl hyo Z.heap.size [.int .i64 (k : Int)] (0, 0) rfl hyk rfl (by simp [Value.oneCell']) (by omega) (by omega) ?_
              intro g' c' w6 hown6 hg6 hat6 hlt6
              have htag : ∀ x, lvv.ownBlock = some x → τ x = 10 + p := fun x hx => by
                rcases HLV.out.2.2 with ⟨_, h2⟩ | ⟨g2, cc2, h2, h3, _⟩
                · rw [h2] at hx; simp [Value.ownBlock] at hx
                · rw [h2] at hx; simp only [Value.ownBlock, Option.some.injEq] at hx; subst hx; exact h3
              have hng : some g ≠ lvv.ownBlock := fun e => by have h1 := htag g e.symm; have h2 := HPZ.out.tv g rfl; omega
              have hnm : some (w.heap.size + 1) ≠ lvv.ownBlock := fun e => by have h1 := htag _ e.symm; have h2 := HPZ.out.tm; omega
              have hcl6 := (HCL.out.below hby).grown hg6 hng hnm
              obtain ⟨es', c2, hrun, hkeys, hats⟩ := run_update_int (P := Try.prog) (T := 93) Try.underlying93 Try.underlying3 w6 (w.heap.size + 1) es c hcl6.2 (p : Int) (.slice (some ⟨g', 0, none⟩) (ls.length + 1) c') HPZ.out.keys
              have hls := HLV.out.1
              have PL := HPZ.out.leave (k := k) (p := p) (n := ls.length) (lv := lvv) (c' := c2) (by rw [hls]) hby HLV.out.2.2 (by rw [hls]; exact hown6) hg6 hat6 hkeys hats
              have HX := Lib.hid (HYES.out p _ _ _ _ PL HSO.out)
              clear PL hls hats hkeys htag hown6 hg6 hat6 hlt6
              have HC6 := Lib.hid hcl6
              clear hcl6 hng hnm hyo hyk hby
              go_wp2_with fail
              refine ⟨⟨CWorld.mk _ HC6.out, rfl⟩, ?_⟩
              refine wpPlan_tail (by kernel_rfl) ?_
              simp only [List.map_cons, List.map_nil]
              go_wp2
              go_roundw
              case rel => exact HX.out
              case measure => simp [intOf]; omega
            · have q29p : (opp == 29) = false := by simpa using h29
              subst hva
              go_wp2
              go_round
              case rel => exact ⟨m, by omega, rfl, Lib.hid (by rw [HLS.out, if_neg h29])⟩
              case measure => first | (simp [intOf]; done) | (simp [intOf]; omega)
      have q30 : (op == 30) = false := by simpa using o30
      by_cases o31 : op = 31
      · subst o31
        obtain ⟨l, p, hl, _, hl31⟩ := opn_snoc HO.out.1 (.inr HOP.out) HPA.out.len
        have hll := hl31 HOP.out
        have hlen : s.opn.length = l.length + 1 := by rw [hl]; simp
        obtain ⟨g, rfl, hcap, hg1, hg2, hgl, htc, hfz⟩ := HPA.out.mem.top hl hlen
        have hpk : p < k := HPA.out.opn p (by rw [hl]; simp)
        have t0 : wr.cell? ⟨g, l.length, none⟩ = some (.int .i64 (p : Int)) := by have := htc l.length (by omega); simpa using this
        have c0 := HPA.out.mem.outCell (p := p) (by rw [HPA.out.out]; omega)
        have y0 := HPA.out.mem.out.frozen p
        have hwl : w.heap.size < wr.heap.size := HPA.out.mem.out.lt
        have hp' : (0 : Int) ≤ (p : Int) ∧ (p : Int) < (cd.length : Int) := by omega
        have hcapI : (l.length : Int) ≤ (vc : Int) ∧ ¬ vc = 0 := by omega
        have hs : ptStep cd k s = ⟨setAll k (s.lv p) (s.out.set p k), l, s.lv⟩ := by unfold ptStep; simp only [HOP.out]; simp [hl]
        have hm0 := HPA.out.mem
        rw [hlen] at hm0
        have pm : PtMem w ⟨s.out.set p k, l, s.lv⟩ τ es c (.slice (some ⟨g, 0, none⟩) l.length vc) (wr.setCell ⟨w.heap.size, p, none⟩ (.int .i64 (k : Int))) := PtMem.pop (s := ⟨s.out.set p k, s.opn, s.lv⟩) hl (hm0.setOut p k)
        have pmz := pm.below ((Below.refl _ _).alloc (Nat.le_refl _) (.cells #[.int .i64 31, .int .i64 to, .int .i64 ra, .int .i64 rb, .int .u32 arg] 61))
        have HP := Lib.hid pmz
        have nxt : ∀ wz, PtMem w ⟨setAll k (s.lv p) (s.out.set p k), l, s.lv⟩ τ es c (.slice (some ⟨g, 0, none⟩) l.length vc) wz → PtRel w cd (.slice (some ⟨g, 0, none⟩) l.length vc) (.int .i64 ((k : Int) + 1)) wz := fun wz hz =>
          PtAt.rel (by simp) (HPA.out.next hk hs HO.out.1 HO.out.2 hll hz (fun x hx => Nat.lt_succ_of_lt (HPA.out.opn x (by rw [hl]; simp [hx]))) (fun q x hx => Nat.lt_succ_of_lt (HPA.out.lvs q x hx)) (fun q => Nat.le_succ_of_le (HPA.out.lvl q)))
        have HNX := Lib.hid nxt
        have hlb : l.length + 1 ≤ 8 := by omega
        have HL := Lib.hid (And.intro (HPA.out.lvs p) (And.intro (HPA.out.lvl p) (show (s.out.set p k).length = cd.length by simp [HPA.out.out])))
        clear nxt pmz pm hm0 hs htc hfz hl hl31 hll
        rw [hlen]
        clear hlen
        go_upto_region 24 with (fail)
        refine wp_gen _ HP.out ?_
        intro Z PZ
        clear HP t0 c0 y0 k0 k1 k2 k3 k4
        have hzk := PZ.map
        have hlk := run_look_int (P := Try.prog) (T := 93) Try.underlying93 Try.underlying3 Z (w.heap.size + 1) es c PZ.map (p : Int) PZ.keys (.slice none 0 0) (zero_ints Z)
        rcases PZ.lvs p with ⟨hl0, ha0⟩ | ⟨gl, cl, ha0, hol, htl⟩
        · rw [ha0] at hlk
          simp only [Option.getD_none] at hlk
          have hl0' : s.lv p = [] := hl0
          have HX := Lib.hid (HNX.out Z (by rw [hl0']; exact PZ))
          clear ha0 hl0 hl0' PZ hzk
          go_wp2_with fail
          go_loop [102] (fun i => i = .int .i64 0) (fun i => 0)
          case atStart => rfl
          case round =>
            subst hrel
            go_wp2
            go_roundw
            case rel => exact HX.out
            case measure => simp [intOf]; omega
        · rw [ha0] at hlk
          simp only [Option.getD_some] at hlk
          obtain ⟨ls, hls⟩ : ∃ ls, s.lv p = ls := ⟨_, rfl⟩
          have hlk' : (Instr.lookup 93 (.map (some (w.heap.size + 1))) (.int .i64 (p : Int)) false).run Try.prog Z = .ok (.slice (some ⟨gl, 0, none⟩) ls.length cl) Z := by rw [hlk]; simp [hls]
          have HLS := Lib.hid hls
          have HPZ := Lib.hid (And.intro PZ htl)
          obtain ⟨hla, hlb2, hlc⟩ := HL.out
          rw [hls] at hla hlb2
          have HLA := Lib.hid (And.intro hla hlc)
          have hol' : Z.ownsRow w.heap.size 3 1 (.slice (some ⟨gl, 0, none⟩) ls.length cl) ls.length (natsV ls) := by have := hol; simp only [hls] at this; exact this
          have HOL := Lib.hid hol'
          clear hlk ha0 hol hol' PZ hzk htl hls hla hlc
          go_wp2_with fail
          go_loopw [102] (fun i wz => ∃ j : Nat, i = .int .i64 (j : Int) ∧ j ≤ ls.length ∧ PtMem w ⟨setAll k (ls.take j) (s.out.set p k), l, s.lv⟩ τ es c (.slice (some ⟨g, 0, none⟩) l.length vc) wz ∧ wz.ownsRow w.heap.size 3 1 (.slice (some ⟨gl, 0, none⟩) ls.length cl) ls.length (natsV ls)) (fun i _ => ls.length - (intOf i).toNat)
          case atStart => exact ⟨0, rfl, Nat.zero_le _, HPZ.out.1, HOL.out⟩
          case round =>
            obtain ⟨j, rfl, hj, PJ, OJ⟩ := hrel
            by_cases hjl : j < ls.length
            · have hj' := nat_cast_ltQ hjl
              obtain ⟨x, hx⟩ : ∃ x, ls.getD j 0 = x := ⟨_, rfl⟩
              have hxk : x < k := HLA.out.1 x (by rw [← hx, List.getD_eq_getElem?_getD, List.getElem?_eq_getElem hjl]; exact List.getElem_mem hjl)
              have cx : wr.cell? ⟨gl, j, none⟩ = some (.int .i64 (x : Int)) := by rw [OJ.cellAt j (by omega), natsV_get hjl, hx]
              have hx' : (0 : Int) ≤ (x : Int) ∧ (x : Int) < (cd.length : Int) := by omega
              have c1 := PJ.outCell (p := x) (by simp only [setAll_length]; rw [HLA.out.2]; omega)
              have y1 := PJ.out.frozen x
              have hneg : gl ≠ w.heap.size := fun e => by have h1 := HPZ.out.2; have h2 := PJ.to; rw [e] at h1; omega
              have ht : setAll k (ls.take (j + 1)) (s.out.set p k) = (setAll k (ls.take j) (s.out.set p k)).set x k := by
                rw [List.take_succ_eq_append_getElem hjl, setAll_snoc]
                have : ls[j] = x := by rw [← hx, List.getD_eq_getElem?_getD, List.getElem?_eq_getElem hjl]; rfl
                rw [this]
              have PN := PJ.setOut x k
              rw [← ht] at PN
              have ON := OJ.kept (grown_set wr ⟨w.heap.size, x, none⟩ (.int .i64 (k : Int))) (.inr (by simp only [Value.ownBlock]; intro e; exact hneg (Option.some.inj e)))
              have HN := Lib.hid (And.intro PN ON)
              clear PN ON ht PJ OJ hx
              go_wp2
              go_roundw
              case rel => exact ⟨j + 1, by simp, by omega, HN.out.1, HN.out.2⟩
              case measure => simp [intOf]; omega
            · have hjj : j = ls.length := by omega
              subst hjj
              have HX := Lib.hid (HNX.out wr (by rw [HLS.out]; rw [List.take_length] at PJ; exact PJ))
              clear PJ OJ
              go_wp2
              go_roundw
              case rel => exact HX.out
              case measure => simp [intOf]; omega
      have q31 : (op == 31) = false := by simpa using o31
      have hs : ptStep cd k s = s := by unfold ptStep; simp only [HOP.out]; simp [n27, n29, o28, o30, o31]
      have ho : o' = o := by have := HO.out.1; rw [HOP.out] at this; simpa [nestStep, n27, n29, o28, o30, o31] using this.symm
      have PX := HPA.out.next hk hs HO.out.1 HO.out.2 (by rw [ho]; exact HPA.out.len) HZ.out (fun x hx => Nat.lt_succ_of_lt (HPA.out.opn x hx)) (fun q x hx => Nat.lt_succ_of_lt (HPA.out.lvs q x hx)) (fun q => Nat.le_succ_of_le (HPA.out.lvl q))
      have HX := Lib.hid PX
      clear PX hs ho
      go_wp2
      go_roundw
      case rel => exact PtAt.rel (by simp) HX.out
      case measure => simp [intOf]; omega
    · have hkk : k = cd.length := by omega
      subst hkk
      have e : s.out = ptOf cd := by have := PA.run; simp only [Nat.sub_self, ptRun] at this; rw [this]; rfl
      have HE := Lib.hid (And.intro e PA.mem)
      clear e PA
      go_wp2
      go_ret
      exact ⟨rfl, by rw [← HE.out.1]; exact HE.out.2.out, HE.out.2.bel⟩
end Go.Proofs.Ytefdnjhhaejgbaa

namespace Go.Proofs.Ytefdnjhhaejgbaa
open Go.RowKit
set_option linter.unusedVariables false

def execT : PT :=
  let r := PT.alt 11 (.alt 12 (.alt 13 .fin .none) .none) .none
  .alt 3 (.alt 7 (.alt 10 r .none) (.alt 10 (.alt 7 r .none) .none)) (.alt 7 (.alt 3 (.alt 10 r .none) (.alt 10 (.alt 3 r .none) .none)) (.alt 10 (.alt 3 (.alt 7 r .none) (.alt 7 (.alt 3 r .none) .none)) .none))

theorem wpTree_alt {P : Program} {ops : Array Oper} {Q : Exit → Act → World → Prop} {S : World → Prop} {j : Nat} {r more : PT} {o : Oper} {a : Act} {w : World} (ho : ops[j]? = some o)
    (h1 : wpList P ops (Exit.then (fun a' w' => S w' ∧ wpTree P ops Q S r a' w') Q) [o] a w) (h2 : wpTree P ops Q S more a w) : wpTree P ops Q S (.alt j r more) a w := by
  unfold wpTree
  exact ⟨by rw [ho]; exact h1, h2⟩
theorem wpTree_gen {P : Program} {ops : Array Oper} {Q : Exit → Act → World → Prop} {S : World → Prop} {T : PT} {a : Act} {w : World} (F : World → Prop) (hF : F w) (h : ∀ w', F w' → wpTree P ops Q S T a w') : wpTree P ops Q S T a w := h w hF

theorem GridOwn.below {B : Nat} {τ : Nat → Nat} {arr : List (List Int)} {ab ac : Nat → Nat} {v : Value} {w w' : World} (h : GridOwn B τ arr ab ac v w) (hb : Below w.heap.size w w') : GridOwn B τ arr ab ac v w' :=
  { h with
    own := h.own.kept (grownBy_of_below hb none) (by cases hv : v.ownBlock <;> simp)
    blk := fun k hk => by obtain ⟨t, ht⟩ := h.blk k hk; exact ⟨t, ht.below hb ht.lt⟩ }

/-- the copy of the memory is there -/
structure CopyDone (B : Nat) (arr : List (List Int)) (ctx : List Int) (lo hi : Nat) (va : Option Addr) (vc cb : Nat) (z : World) : Prop where
  bl : B ≤ lo
  g : ∃ τ ab ac, GridOwn lo τ arr ab ac (.slice va arr.length vc) z ∧ τ cb = 3 ∧ (∀ k, k < arr.length → ab k < hi)
  own : ∀ x, (Value.slice va arr.length vc).ownBlock = some x → x < hi
  ctx : ∃ t, Blk z cb (ints .u32 ctx ++ t) 42
  c1 : lo ≤ cb
  c2 : cb < hi
  hz : hi ≤ z.heap.size

theorem CopyDone.below {B : Nat} {arr : List (List Int)} {ctx : List Int} {lo hi : Nat} {va : Option Addr} {vc cb : Nat} {z z' : World} (h : CopyDone B arr ctx lo hi va vc cb z) (hb : Below z.heap.size z z') : CopyDone B arr ctx lo hi va vc cb z' :=
  { h with
    g := by obtain ⟨τ, ab, ac, h1, h2, h3⟩ := h.g; exact ⟨τ, ab, ac, h1.below hb, h2, h3⟩
    ctx := by obtain ⟨t, ht⟩ := h.ctx; exact ⟨t, ht.below hb ht.lt⟩
    hz := Nat.le_trans h.hz hb.size }

theorem grid_slice {B : Nat} {τ : Nat → Nat} {arr : List (List Int)} {ab ac : Nat → Nat} {v : Value} {w : World} (h : GridOwn B τ arr ab ac v w) : ∃ va vc, v = .slice va arr.length vc := by
  rcases h.own.2 with ⟨h1, h2⟩ | ⟨g, cc, cur, h1, _⟩
  · exact ⟨none, 0, by rw [h1, h2]⟩
  · exact ⟨_, cc, h1⟩

theorem copy_done {B : Nat} {τ : Nat → Nat} {arr : List (List Int)} {ctx : List Int} {ab ac : Nat → Nat} {va : Option Addr} {vc cb : Nat} {z y : World} (h : GridOwn z.heap.size τ arr ab ac (.slice va arr.length vc) y)
    (hc : ∃ t, Blk y cb (ints .u32 ctx ++ t) 42) (tcb : τ cb = 3) (hcb : z.heap.size ≤ cb) (hB : B ≤ z.heap.size) : CopyDone B arr ctx z.heap.size y.heap.size va vc cb y :=
  ⟨hB, ⟨τ, ab, ac, h, tcb, fun k hk => by obtain ⟨t, ht⟩ := h.blk k hk; exact ht.lt⟩, fun x hx => (h.own.lt x hx).2, hc, hcb, by obtain ⟨t, ht⟩ := hc; exact ht.lt, Nat.le_refl _⟩

theorem CopyDone.parts {B : Nat} {c : MC} {arr : List (List Int)} {ctx : List Int} {lo hi rb sb : Nat} {va : Option Addr} {vc cb cc : Nat} {z : World} (h : CopyDone B arr ctx lo hi va vc cb z)
    (hr : Blk z rb (ints .u32 (List.replicate c.regs 0)) 42) (hs : Blk z sb (ints .u32 (List.replicate c.spills 0)) 42) (h1 : rb < lo ∨ hi ≤ rb) (h2 : sb < lo ∨ hi ≤ sb) (h3 : rb ≠ sb) (h4 : B ≤ rb) (h5 : B ≤ sb) (h6 : B ≤ z.heap.size) : Parts B c arr ctx rb sb cb cc va vc z :=
  ⟨by obtain ⟨τ, ab, ac, g1, g2, g3⟩ := h.g; exact ⟨lo, hi, τ, ab, ac, h.bl, g1, g2, h.c1, h.c2, g3, h.own, h.hz, h1, h2⟩, h.ctx, hr, hs, h3, h4, h5, h6⟩

/-- behind the guard -/
def EndPost (w w9 : World) (r : Except Int PS) (e : Ending) : Prop :=
  Blk w9 (w.heap.size + 1 + 1 + 1) zeroRun 49 ∧ ∃ qa na cq ca nb cc oa no oc st er, e = .returned (.tuple #[.agg #[.slice qa na cq, .slice ca nb cc, .slice oa no oc, .int .i64 st], .int .i64 er]) ∧
    ExecPost w r e ((((w9.setCell ⟨w.heap.size + 1 + 1 + 1, 0, none⟩ (.slice qa na cq)).setCell ⟨w.heap.size + 1 + 1 + 1, 1, none⟩ (.slice ca nb cc)).setCell ⟨w.heap.size + 1 + 1 + 1, 2, none⟩ (.slice oa no oc)).setCell ⟨w.heap.size + 1 + 1 + 1, 3, none⟩ (.int .i64 st))

theorem end_post {w W z w9 : World} {r : Except Int PS} {e : Ending} (hbW : Below w.heap.size w W) (hres : Blk W (w.heap.size + 1 + 1 + 1) zeroRun 49) (hsW : W.heap.size = w.heap.size + 4) (hb : Below W.heap.size W z) (h : LeafPost w.heap.size W.heap.size z r e w9) : EndPost w w9 r e := by
  obtain ⟨h1, h2, h3⟩ := h
  have hwz : Below w.heap.size w z := hbW.trans (hb.mono (by omega))
  have hr9 : Blk w9 (w.heap.size + 1 + 1 + 1) zeroRun 49 := by
    unfold Blk
    rw [h2 _ (by omega), hb.block _ (by omega)]
    exact hres
  have hx : w.heap.size ≤ w.heap.size + 1 + 1 + 1 := by omega
  have hbel := fun v0 v1 v2 v3 => ((((hwz.trans h1).setCell (p := ⟨w.heap.size + 1 + 1 + 1, 0, none⟩) hx v0).setCell (p := ⟨w.heap.size + 1 + 1 + 1, 1, none⟩) hx v1).setCell (p := ⟨w.heap.size + 1 + 1 + 1, 2, none⟩) hx v2).setCell (p := ⟨w.heap.size + 1 + 1 + 1, 3, none⟩) hx v3
  cases r with
  | ok s =>
    obtain ⟨qa, cq, ca, cc, oa, oc, rfl, hv⟩ := h3
    refine ⟨hr9, _, _, _, _, _, _, _, _, _, _, _, rfl, hbel _ _ _ _, _, rfl, fun w2 h5 h6 => hv w2 (fun k hk => ?_) (by rw [h6]; simp [World.setCell])⟩
    have hne : k ≠ w.heap.size + 1 + 1 + 1 := by omega
    rw [h5 k (by omega), Below.heap_setCell _ _ _ _ hne, Below.heap_setCell _ _ _ _ hne, Below.heap_setCell _ _ _ _ hne, Below.heap_setCell _ _ _ _ hne]
  | error n => exact ⟨hr9, _, _, _, _, _, _, _, _, _, _, _, h3, hbel _ _ _ _, h3⟩

set_option maxRecDepth 100000 in
set_option maxHeartbeats 1000000 in
theorem execute_any (c : MC) (arr : List (List Int)) (ctx : List Int) (r : Except Int PS) (hr : RunsTo c (c.init arr ctx) r) (arsA codeA ptA qa ca : Option Addr) (arsC codeC ptC cq cc0 : Nat) (w : World)
    (hcd : RowB w.heap.size w 5 codeA c.cd.length fun i j => (c.cd.getD i default).cell j) (hpt : RowB w.heap.size w 1 ptA c.pt.length fun i _ => .int .i64 (c.pt.getD i 0 : Nat))
    (hars : RowB w.heap.size w 2 arsA c.ars.length fun i j => (c.ars.getD i default).cell j) (hg : GridAt w qa arr) (hctx : NumsAt w ca ctx)
    (hn : arr.length ≤ 8) (h1 : ∀ a ∈ arr, 0 < a.length ∧ a.length ≤ 65536) (hc : 0 < ctx.length ∧ ctx.length ≤ 16) (hregs : c.regs ≤ 1024) (hspl : c.spills ≤ 1024) :
    Calls Try.prog 39 #[.agg #[.slice arsA c.ars.length arsC, .int .i64 c.regs, .int .i64 c.spills, .slice codeA c.cd.length codeC], .slice ptA c.pt.length ptC, .agg #[.slice qa arr.length cq, .slice ca ctx.length cc0], .agg #[.int .u32 c.input, .bool c.ended, .int .i64 c.fuel]] w (ExecPost w r) := by
  have m1 := run_make_u32 c.regs (by omega)
  have m2 := run_make_u32 c.spills (by omega)
  have HCD := Lib.hid hcd
  have HPT := Lib.hid hpt
  have HARS := Lib.hid hars
  have HG := Lib.hid hg
  have HCTX := Lib.hid hctx
  have HR := Lib.hid hr
  have H1 := Lib.hid h1
  clear hcd hpt hars hg hctx hr h1
  go_enter Try.func39, Try.ntmps39
  go_wp2_with fail
  refine wp_gen (fun W => Below w.heap.size w W ∧ Blk W w.heap.size [.slice arsA c.ars.length arsC, .int .i64 c.regs, .int .i64 c.spills, .slice codeA c.cd.length codeC] 25 ∧ Blk W (w.heap.size + 1) [.slice qa arr.length cq, .slice ca ctx.length cc0] 31 ∧
      Blk W (w.heap.size + 1 + 1) [.int .u32 c.input, .bool c.ended, .int .i64 c.fuel] 44 ∧ Blk W (w.heap.size + 1 + 1 + 1) zeroRun 49 ∧ W.heap.size = w.heap.size + 4) ?_ ?_
  · refine ⟨((((Below.refl _ _).alloc (by simp) _).alloc (by simp) _).alloc (by simp; omega) _).alloc (by simp; omega) _, ?_, ?_, ?_, ?_, by simp⟩
    · unfold Blk
      rw [Below.heap_alloc _ _ _ (by simp; omega), Below.heap_alloc _ _ _ (by simp; omega), Below.heap_alloc _ _ _ (by simp)]
      exact heap_new1 _ _
    · unfold Blk
      rw [Below.heap_alloc _ _ _ (by simp), Below.heap_alloc _ _ _ (by simp)]
      exact heap_new2 _ _ _
    · unfold Blk
      rw [Below.heap_alloc _ _ _ (by simp)]
      have := heap_new1 ((w.alloc (.cells #[.slice arsA c.ars.length arsC, .int .i64 c.regs, .int .i64 c.spills, .slice codeA c.cd.length codeC] 25)).alloc (.cells #[.slice qa arr.length cq, .slice ca ctx.length cc0] 31)) (.cells #[.int .u32 c.input, .bool c.ended, .int .i64 c.fuel] 44)
      simpa using this
    · unfold Blk
      have := heap_new1 (((w.alloc (.cells #[.slice arsA c.ars.length arsC, .int .i64 c.regs, .int .i64 c.spills, .slice codeA c.cd.length codeC] 25)).alloc (.cells #[.slice qa arr.length cq, .slice ca ctx.length cc0] 31)).alloc (.cells #[.int .u32 c.input, .bool c.ended, .int .i64 c.fuel] 44)) (.cells #[.slice none 0 0, .slice none 0 0, .slice none 0 0, .int .i64 0] 49)
      simpa [zeroRun] using this
  rintro W ⟨hbW, bk1, bk2, bk3, bk4, hsW⟩
  have a0 : W.cell? ⟨w.heap.size, 0, none⟩ = some (.slice arsA c.ars.length arsC) := bk1.cell 0
  have a1 : W.cell? ⟨w.heap.size, 0 + 1, none⟩ = some (.int .i64 c.regs) := bk1.cell 1
  have a2 : W.cell? ⟨w.heap.size, 0 + 1 + 1, none⟩ = some (.int .i64 c.spills) := bk1.cell 2
  have a3 : W.cell? ⟨w.heap.size, 0 + 1 + 1 + 1, none⟩ = some (.slice codeA c.cd.length codeC) := bk1.cell 3
  have b0 : W.cell? ⟨w.heap.size + 1, 0, none⟩ = some (.slice qa arr.length cq) := bk2.cell 0
  have b1 : W.cell? ⟨w.heap.size + 1, 0 + 1, none⟩ = some (.slice ca ctx.length cc0) := bk2.cell 1
  have d0 : W.cell? ⟨w.heap.size + 1 + 1, 0, none⟩ = some (.int .u32 c.input) := bk3.cell 0
  have d1 : W.cell? ⟨w.heap.size + 1 + 1, 0 + 1, none⟩ = some (.bool c.ended) := bk3.cell 1
  have d2 : W.cell? ⟨w.heap.size + 1 + 1, 0 + 1 + 1, none⟩ = some (.int .i64 c.fuel) := bk3.cell 2
  have a1' : W.cell? ⟨w.heap.size, 1, none⟩ = some (.int .i64 c.regs) := bk1.cell 1
  have a2' : W.cell? ⟨w.heap.size, 2, none⟩ = some (.int .i64 c.spills) := bk1.cell 2
  have l0 : w.heap.size < W.heap.size := by omega
  have l1 : w.heap.size + 1 < W.heap.size := by omega
  have l2 : w.heap.size + 1 + 1 < W.heap.size := by omega
  have HW := Lib.hid (And.intro hbW (And.intro bk4 hsW))
  clear hbW bk1 bk2 bk3 bk4 hsW
  refine wp_region_fork [0, 2, 4, 6, 9] [1, 5, 8] [(2, 1), (2, 5), (2, 8), (1, 0), (1, 2), (1, 4), (1, 6), (1, 9)] execT (by kernel_rfl) (by kernel_rfl) (fun c a d v w h => by cases d <;> exact h) ?_
  simp only [getPlan, List.filterMap_cons, List.filterMap_nil, List.getElem?_toArray, List.getElem?_cons_succ, List.getElem?_cons_zero, Option.map_some]
  repeat ((first | refine wpPlan_pure (fun K hK => ?_) | refine wpPlan_float (fun K hK => ?_)); go_simp; refine hK _ ?_; clear hK K)
  clear a0 a1 a2 a3 b0 b1 d0 d1 d2 a1' a2' l0 l1 l2
  have HWZ := Lib.hid (fun (z : World) (h : Below W.heap.size W z) => HW.out.1.trans (h.mono (by have := HW.out.2.2; omega)))
  have HSZ := Lib.hid (show w.heap.size ≤ W.heap.size from HW.out.1.size)
  have HEND := Lib.hid (fun (z : World) (h : Below W.heap.size W z) (e : Ending) (w9 : World) (hp : LeafPost w.heap.size W.heap.size z r e w9) => end_post HW.out.1 HW.out.2.1 HW.out.2.2 h hp)
  refine wpPlan_nil ?_
  show wpTree _ _ _ _ _ _ _
  refine wpTree_gen (fun z => Below W.heap.size W z) (Below.refl _ _).drew ?_
  intro z hb_z
  unfold execT
  have s_z := hb_z.size
  refine wpTree_alt rfl ?_ ?_
  · go_wp2_with fail
    refine (copied_any qa ca cq cc0 arr ctx _ (HG.out.below (HWZ.out _ hb_z)) (HCTX.out.below (HWZ.out _ hb_z)) hn H1.out hc).mono ?_
    rintro e y1 ⟨v, τ, ab, ac, cb, cc, rfl, hgo, hcx, tcb, hcb, hby⟩
    obtain ⟨va, vc, rfl⟩ := grid_slice hgo
    have FC_y1 := copy_done hgo hcx tcb hcb hb_z.size
    clear hgo hcx tcb hcb
    have hb_y1 : Below W.heap.size W y1 := hb_z.trans (hby.mono hb_z.size)
    go_wp2_with fail
    refine ⟨grew_below hb_y1, ?_⟩
    have s_y1 := hby.size
    have k_y1 : W.heap.size ≤ y1.heap.size := hb_y1.size
    clear hby
    refine wpTree_alt rfl ?_ ?_
    · go_wp2_with fail
      refine ⟨grew_below (hb_y1.alloc hb_y1.size _), ?_⟩
      refine wpTree_gen (fun y => Below y1.heap.size y1 y ∧ Blk y y1.heap.size (ints .u32 (List.replicate c.regs 0)) 42) ⟨(Below.refl _ _).alloc (Nat.le_refl _) _, heap_new1 _ _⟩ ?_
      rintro y2 ⟨hby, Fr_y2⟩
      have hb_y2 : Below W.heap.size W y2 := hb_y1.trans (hby.mono hb_y1.size)
      have t_y2 := Fr_y2.lt
      have FC_y2 := FC_y1.below hby
      have s_y2 := hby.size
      have k_y2 : W.heap.size ≤ y2.heap.size := hb_y2.size
      clear hby
      refine wpTree_alt rfl ?_ ?_
      · go_wp2_with fail
        refine ⟨grew_below (hb_y2.alloc hb_y2.size _), ?_⟩
        refine wpTree_gen (fun y => Below y2.heap.size y2 y ∧ Blk y y2.heap.size (ints .u32 (List.replicate c.spills 0)) 42) ⟨(Below.refl _ _).alloc (Nat.le_refl _) _, heap_new1 _ _⟩ ?_
        rintro y3 ⟨hby, Fs_y3⟩
        have hb_y3 : Below W.heap.size W y3 := hb_y2.trans (hby.mono hb_y2.size)
        have t_y3 := Fs_y3.lt
        have FC_y3 := FC_y2.below hby
        have Fr_y3 := Fr_y2.below hby Fr_y2.lt
        have s_y3 := hby.size
        have k_y3 : W.heap.size ≤ y3.heap.size := hb_y3.size
        clear hby
        have l_r := Fr_y3.lt
        have l_s := Fs_y3.lt
        have l_c := FC_y3.hz
        have PP : Parts W.heap.size c arr ctx y1.heap.size y2.heap.size cb cc va vc y3 := FC_y3.parts Fr_y3 Fs_y3 (by omega) (by omega) (by omega) (by omega) (by omega) hb_y3.size
        have LF := guard_leaf HR.out (B0 := w.heap.size) HSZ.out PP (arsC := arsC) (codeC := codeC) (ptC := ptC) (HCD.out.below (HWZ.out _ hb_y3)) (HPT.out.below (HWZ.out _ hb_y3)) (HARS.out.below (HWZ.out _ hb_y3)) hn
        have HLF := Lib.hid LF
        clear LF PP
        refine wpTree_alt rfl ?_ trivial
        go_wp2_with fail
        refine ⟨grew_below (by first | exact hb_y3 | exact hb_y3.alloc hb_y3.size _), ?_⟩
        refine wpTree_alt rfl ?_ trivial
        go_wp2_with fail
        refine ⟨grew_below (by first | exact hb_y3 | exact hb_y3.alloc hb_y3.size _), ?_⟩
        refine wpTree_alt rfl ?_ trivial
        go_wp2_with fail
        refine ⟨grew_below (by first | exact hb_y3 | exact hb_y3.alloc hb_y3.size _), ?_⟩
        show Exit.then _ _ _ _ _
        go_wp2_with fail
        refine HLF.out.mono ?_
        intro e w9 hpost
        have HP := HEND.out y3 hb_y3 e w9 hpost
        clear hpost
        obtain ⟨hr9, qa', na, cq', ca', nb, cc', oa, no, oc, st, er, rfl, hex⟩ := HP
        have z0 : w9.cell? ⟨w.heap.size + 1 + 1 + 1, 0, none⟩ = some (.slice none 0 0) := hr9.cell 0
        have z1 : w9.cell? ⟨w.heap.size + 1 + 1 + 1, 0 + 1, none⟩ = some (.slice none 0 0) := hr9.cell 1
        have z2 : w9.cell? ⟨w.heap.size + 1 + 1 + 1, 0 + 1 + 1, none⟩ = some (.slice none 0 0) := hr9.cell 2
        have z3 : w9.cell? ⟨w.heap.size + 1 + 1 + 1, 0 + 1 + 1 + 1, none⟩ = some (.int .i64 0) := hr9.cell 3
        have f0 := hr9.frozen 0
        have f1 := hr9.frozen (0 + 1)
        have f2 := hr9.frozen (0 + 1 + 1)
        have f3 := hr9.frozen (0 + 1 + 1 + 1)
        have HEX := Lib.hid hex
        clear hex
        go_wp2
        refine bodyPost_ret (v := .tuple #[.agg #[.slice qa' na cq', .slice ca' nb cc', .slice oa no oc, .int .i64 st], .int .i64 er]) ?_ rfl ?_
        · have e0 := ((((hr9.set 0 (.slice qa' na cq')).set 1 (.slice ca' nb cc')).set 2 (.slice oa no oc)).set 3 (.int .i64 st))
          have y0 := e0.cell 0
          have y1 := e0.cell 1
          have y2 := e0.cell 2
          have y3 := e0.cell 3
          simp only [zeroRun, List.set_cons_zero, List.set_cons_succ, List.getElem?_cons_zero, List.getElem?_cons_succ] at y0 y1 y2 y3
          simp [results, Try.results39, go_sem, y0, y1, y2, y3]
        · exact HEX.out
      exact trivial
    refine wpTree_alt rfl ?_ ?_
    · go_wp2_with fail
      refine ⟨grew_below (hb_y1.alloc hb_y1.size _), ?_⟩
      refine wpTree_gen (fun y => Below y1.heap.size y1 y ∧ Blk y y1.heap.size (ints .u32 (List.replicate c.spills 0)) 42) ⟨(Below.refl _ _).alloc (Nat.le_refl _) _, heap_new1 _ _⟩ ?_
      rintro y4 ⟨hby, Fs_y4⟩
      have hb_y4 : Below W.heap.size W y4 := hb_y1.trans (hby.mono hb_y1.size)
      have t_y4 := Fs_y4.lt
      have FC_y4 := FC_y1.below hby
      have s_y4 := hby.size
      have k_y4 : W.heap.size ≤ y4.heap.size := hb_y4.size
      clear hby
      refine wpTree_alt rfl ?_ ?_
      · go_wp2_with fail
        refine ⟨grew_below (hb_y4.alloc hb_y4.size _), ?_⟩
        refine wpTree_gen (fun y => Below y4.heap.size y4 y ∧ Blk y y4.heap.size (ints .u32 (List.replicate c.regs 0)) 42) ⟨(Below.refl _ _).alloc (Nat.le_refl _) _, heap_new1 _ _⟩ ?_
        rintro y5 ⟨hby, Fr_y5⟩
        have hb_y5 : Below W.heap.size W y5 := hb_y4.trans (hby.mono hb_y4.size)
        have t_y5 := Fr_y5.lt
        have FC_y5 := FC_y4.below hby
        have Fs_y5 := Fs_y4.below hby Fs_y4.lt
        have s_y5 := hby.size
        have k_y5 : W.heap.size ≤ y5.heap.size := hb_y5.size
        clear hby
        have l_r := Fr_y5.lt
        have l_s := Fs_y5.lt
        have l_c := FC_y5.hz
        have PP : Parts W.heap.size c arr ctx y4.heap.size y1.heap.size cb cc va vc y5 := FC_y5.parts Fr_y5 Fs_y5 (by omega) (by omega) (by omega) (by omega) (by omega) hb_y5.size
        have LF := guard_leaf HR.out (B0 := w.heap.size) HSZ.out PP (arsC := arsC) (codeC := codeC) (ptC := ptC) (HCD.out.below (HWZ.out _ hb_y5)) (HPT.out.below (HWZ.out _ hb_y5)) (HARS.out.below (HWZ.out _ hb_y5)) hn
        have HLF := Lib.hid LF
        clear LF PP
        refine wpTree_alt rfl ?_ trivial
        go_wp2_with fail
        refine ⟨grew_below (by first | exact hb_y5 | exact hb_y5.alloc hb_y5.size _), ?_⟩
        refine wpTree_alt rfl ?_ trivial
        go_wp2_with fail
        refine ⟨grew_below (by first | exact hb_y5 | exact hb_y5.alloc hb_y5.size _), ?_⟩
        refine wpTree_alt rfl ?_ trivial
        go_wp2_with fail
        refine ⟨grew_below (by first | exact hb_y5 | exact hb_y5.alloc hb_y5.size _), ?_⟩
        show Exit.then _ _ _ _ _
        go_wp2_with fail
        refine HLF.out.mono ?_
        intro e w9 hpost
        have HP := HEND.out y5 hb_y5 e w9 hpost
        clear hpost
        obtain ⟨hr9, qa', na, cq', ca', nb, cc', oa, no, oc, st, er, rfl, hex⟩ := HP
        have z0 : w9.cell? ⟨w.heap.size + 1 + 1 + 1, 0, none⟩ = some (.slice none 0 0) := hr9.cell 0
        have z1 : w9.cell? ⟨w.heap.size + 1 + 1 + 1, 0 + 1, none⟩ = some (.slice none 0 0) := hr9.cell 1
        have z2 : w9.cell? ⟨w.heap.size + 1 + 1 + 1, 0 + 1 + 1, none⟩ = some (.slice none 0 0) := hr9.cell 2
        have z3 : w9.cell? ⟨w.heap.size + 1 + 1 + 1, 0 + 1 + 1 + 1, none⟩ = some (.int .i64 0) := hr9.cell 3
        have f0 := hr9.frozen 0
        have f1 := hr9.frozen (0 + 1)
        have f2 := hr9.frozen (0 + 1 + 1)
        have f3 := hr9.frozen (0 + 1 + 1 + 1)
        have HEX := Lib.hid hex
        clear hex
        go_wp2
        refine bodyPost_ret (v := .tuple #[.agg #[.slice qa' na cq', .slice ca' nb cc', .slice oa no oc, .int .i64 st], .int .i64 er]) ?_ rfl ?_
        · have e0 := ((((hr9.set 0 (.slice qa' na cq')).set 1 (.slice ca' nb cc')).set 2 (.slice oa no oc)).set 3 (.int .i64 st))
          have y0 := e0.cell 0
          have y1 := e0.cell 1
          have y2 := e0.cell 2
          have y3 := e0.cell 3
          simp only [zeroRun, List.set_cons_zero, List.set_cons_succ, List.getElem?_cons_zero, List.getElem?_cons_succ] at y0 y1 y2 y3
          simp [results, Try.results39, go_sem, y0, y1, y2, y3]
        · exact HEX.out
      exact trivial
    exact trivial
  refine wpTree_alt rfl ?_ ?_
  · go_wp2_with fail
    refine ⟨grew_below (hb_z.alloc hb_z.size _), ?_⟩
    refine wpTree_gen (fun y => Below z.heap.size z y ∧ Blk y z.heap.size (ints .u32 (List.replicate c.regs 0)) 42) ⟨(Below.refl _ _).alloc (Nat.le_refl _) _, heap_new1 _ _⟩ ?_
    rintro y6 ⟨hby, Fr_y6⟩
    have hb_y6 : Below W.heap.size W y6 := hb_z.trans (hby.mono hb_z.size)
    have t_y6 := Fr_y6.lt
    have s_y6 := hby.size
    have k_y6 : W.heap.size ≤ y6.heap.size := hb_y6.size
    clear hby
    refine wpTree_alt rfl ?_ ?_
    · go_wp2_with fail
      refine (copied_any qa ca cq cc0 arr ctx _ (HG.out.below (HWZ.out _ hb_y6)) (HCTX.out.below (HWZ.out _ hb_y6)) hn H1.out hc).mono ?_
      rintro e y7 ⟨v, τ, ab, ac, cb, cc, rfl, hgo, hcx, tcb, hcb, hby⟩
      obtain ⟨va, vc, rfl⟩ := grid_slice hgo
      have FC_y7 := copy_done hgo hcx tcb hcb hb_y6.size
      clear hgo hcx tcb hcb
      have hb_y7 : Below W.heap.size W y7 := hb_y6.trans (hby.mono hb_y6.size)
      have Fr_y7 := Fr_y6.below hby Fr_y6.lt
      go_wp2_with fail
      refine ⟨grew_below hb_y7, ?_⟩
      have s_y7 := hby.size
      have k_y7 : W.heap.size ≤ y7.heap.size := hb_y7.size
      clear hby
      refine wpTree_alt rfl ?_ ?_
      · go_wp2_with fail
        refine ⟨grew_below (hb_y7.alloc hb_y7.size _), ?_⟩
        refine wpTree_gen (fun y => Below y7.heap.size y7 y ∧ Blk y y7.heap.size (ints .u32 (List.replicate c.spills 0)) 42) ⟨(Below.refl _ _).alloc (Nat.le_refl _) _, heap_new1 _ _⟩ ?_
        rintro y8 ⟨hby, Fs_y8⟩
        have hb_y8 : Below W.heap.size W y8 := hb_y7.trans (hby.mono hb_y7.size)
        have t_y8 := Fs_y8.lt
        have FC_y8 := FC_y7.below hby
        have Fr_y8 := Fr_y7.below hby Fr_y7.lt
        have s_y8 := hby.size
        have k_y8 : W.heap.size ≤ y8.heap.size := hb_y8.size
        clear hby
        have l_r := Fr_y8.lt
        have l_s := Fs_y8.lt
        have l_c := FC_y8.hz
        have PP : Parts W.heap.size c arr ctx z.heap.size y7.heap.size cb cc va vc y8 := FC_y8.parts Fr_y8 Fs_y8 (by omega) (by omega) (by omega) (by omega) (by omega) hb_y8.size
        have LF := guard_leaf HR.out (B0 := w.heap.size) HSZ.out PP (arsC := arsC) (codeC := codeC) (ptC := ptC) (HCD.out.below (HWZ.out _ hb_y8)) (HPT.out.below (HWZ.out _ hb_y8)) (HARS.out.below (HWZ.out _ hb_y8)) hn
        have HLF := Lib.hid LF
        clear LF PP
        refine wpTree_alt rfl ?_ trivial
        go_wp2_with fail
        refine ⟨grew_below (by first | exact hb_y8 | exact hb_y8.alloc hb_y8.size _), ?_⟩
        refine wpTree_alt rfl ?_ trivial
        go_wp2_with fail
        refine ⟨grew_below (by first | exact hb_y8 | exact hb_y8.alloc hb_y8.size _), ?_⟩
        refine wpTree_alt rfl ?_ trivial
        go_wp2_with fail
        refine ⟨grew_below (by first | exact hb_y8 | exact hb_y8.alloc hb_y8.size _), ?_⟩
        show Exit.then _ _ _ _ _
        go_wp2_with fail
        refine HLF.out.mono ?_
        intro e w9 hpost
        have HP := HEND.out y8 hb_y8 e w9 hpost
        clear hpost
        obtain ⟨hr9, qa', na, cq', ca', nb, cc', oa, no, oc, st, er, rfl, hex⟩ := HP
        have z0 : w9.cell? ⟨w.heap.size + 1 + 1 + 1, 0, none⟩ = some (.slice none 0 0) := hr9.cell 0
        have z1 : w9.cell? ⟨w.heap.size + 1 + 1 + 1, 0 + 1, none⟩ = some (.slice none 0 0) := hr9.cell 1
        have z2 : w9.cell? ⟨w.heap.size + 1 + 1 + 1, 0 + 1 + 1, none⟩ = some (.slice none 0 0) := hr9.cell 2
        have z3 : w9.cell? ⟨w.heap.size + 1 + 1 + 1, 0 + 1 + 1 + 1, none⟩ = some (.int .i64 0) := hr9.cell 3
        have f0 := hr9.frozen 0
        have f1 := hr9.frozen (0 + 1)
        have f2 := hr9.frozen (0 + 1 + 1)
        have f3 := hr9.frozen (0 + 1 + 1 + 1)
        have HEX := Lib.hid hex
        clear hex
        go_wp2
        refine bodyPost_ret (v := .tuple #[.agg #[.slice qa' na cq', .slice ca' nb cc', .slice oa no oc, .int .i64 st], .int .i64 er]) ?_ rfl ?_
        · have e0 := ((((hr9.set 0 (.slice qa' na cq')).set 1 (.slice ca' nb cc')).set 2 (.slice oa no oc)).set 3 (.int .i64 st))
          have y0 := e0.cell 0
          have y1 := e0.cell 1
          have y2 := e0.cell 2
          have y3 := e0.cell 3
          simp only [zeroRun, List.set_cons_zero, List.set_cons_succ, List.getElem?_cons_zero, List.getElem?_cons_succ] at y0 y1 y2 y3
          simp [results, Try.results39, go_sem, y0, y1, y2, y3]
        · exact HEX.out
      exact trivial
    refine wpTree_alt rfl ?_ ?_
    · go_wp2_with fail
      refine ⟨grew_below (hb_y6.alloc hb_y6.size _), ?_⟩
      refine wpTree_gen (fun y => Below y6.heap.size y6 y ∧ Blk y y6.heap.size (ints .u32 (List.replicate c.spills 0)) 42) ⟨(Below.refl _ _).alloc (Nat.le_refl _) _, heap_new1 _ _⟩ ?_
      rintro y9 ⟨hby, Fs_y9⟩
      have hb_y9 : Below W.heap.size W y9 := hb_y6.trans (hby.mono hb_y6.size)
      have t_y9 := Fs_y9.lt
      have Fr_y9 := Fr_y6.below hby Fr_y6.lt
      have s_y9 := hby.size
      have k_y9 : W.heap.size ≤ y9.heap.size := hb_y9.size
      clear hby
      refine wpTree_alt rfl ?_ ?_
      · go_wp2_with fail
        refine (copied_any qa ca cq cc0 arr ctx _ (HG.out.below (HWZ.out _ hb_y9)) (HCTX.out.below (HWZ.out _ hb_y9)) hn H1.out hc).mono ?_
        rintro e y10 ⟨v, τ, ab, ac, cb, cc, rfl, hgo, hcx, tcb, hcb, hby⟩
        obtain ⟨va, vc, rfl⟩ := grid_slice hgo
        have FC_y10 := copy_done hgo hcx tcb hcb hb_y9.size
        clear hgo hcx tcb hcb
        have hb_y10 : Below W.heap.size W y10 := hb_y9.trans (hby.mono hb_y9.size)
        have Fr_y10 := Fr_y9.below hby Fr_y9.lt
        have Fs_y10 := Fs_y9.below hby Fs_y9.lt
        go_wp2_with fail
        refine ⟨grew_below hb_y10, ?_⟩
        have s_y10 := hby.size
        have k_y10 : W.heap.size ≤ y10.heap.size := hb_y10.size
        clear hby
        have l_r := Fr_y10.lt
        have l_s := Fs_y10.lt
        have l_c := FC_y10.hz
        have PP : Parts W.heap.size c arr ctx z.heap.size y6.heap.size cb cc va vc y10 := FC_y10.parts Fr_y10 Fs_y10 (by omega) (by omega) (by omega) (by omega) (by omega) hb_y10.size
        have LF := guard_leaf HR.out (B0 := w.heap.size) HSZ.out PP (arsC := arsC) (codeC := codeC) (ptC := ptC) (HCD.out.below (HWZ.out _ hb_y10)) (HPT.out.below (HWZ.out _ hb_y10)) (HARS.out.below (HWZ.out _ hb_y10)) hn
        have HLF := Lib.hid LF
        clear LF PP
        refine wpTree_alt rfl ?_ trivial
        go_wp2_with fail
        refine ⟨grew_below (by first | exact hb_y10 | exact hb_y10.alloc hb_y10.size _), ?_⟩
        refine wpTree_alt rfl ?_ trivial
        go_wp2_with fail
        refine ⟨grew_below (by first | exact hb_y10 | exact hb_y10.alloc hb_y10.size _), ?_⟩
        refine wpTree_alt rfl ?_ trivial
        go_wp2_with fail
        refine ⟨grew_below (by first | exact hb_y10 | exact hb_y10.alloc hb_y10.size _), ?_⟩
        show Exit.then _ _ _ _ _
        go_wp2_with fail
        refine HLF.out.mono ?_
        intro e w9 hpost
        have HP := HEND.out y10 hb_y10 e w9 hpost
        clear hpost
        obtain ⟨hr9, qa', na, cq', ca', nb, cc', oa, no, oc, st, er, rfl, hex⟩ := HP
        have z0 : w9.cell? ⟨w.heap.size + 1 + 1 + 1, 0, none⟩ = some (.slice none 0 0) := hr9.cell 0
        have z1 : w9.cell? ⟨w.heap.size + 1 + 1 + 1, 0 + 1, none⟩ = some (.slice none 0 0) := hr9.cell 1
        have z2 : w9.cell? ⟨w.heap.size + 1 + 1 + 1, 0 + 1 + 1, none⟩ = some (.slice none 0 0) := hr9.cell 2
        have z3 : w9.cell? ⟨w.heap.size + 1 + 1 + 1, 0 + 1 + 1 + 1, none⟩ = some (.int .i64 0) := hr9.cell 3
        have f0 := hr9.frozen 0
        have f1 := hr9.frozen (0 + 1)
        have f2 := hr9.frozen (0 + 1 + 1)
        have f3 := hr9.frozen (0 + 1 + 1 + 1)
        have HEX := Lib.hid hex
        clear hex
        go_wp2
        refine bodyPost_ret (v := .tuple #[.agg #[.slice qa' na cq', .slice ca' nb cc', .slice oa no oc, .int .i64 st], .int .i64 er]) ?_ rfl ?_
        · have e0 := ((((hr9.set 0 (.slice qa' na cq')).set 1 (.slice ca' nb cc')).set 2 (.slice oa no oc)).set 3 (.int .i64 st))
          have y0 := e0.cell 0
          have y1 := e0.cell 1
          have y2 := e0.cell 2
          have y3 := e0.cell 3
          simp only [zeroRun, List.set_cons_zero, List.set_cons_succ, List.getElem?_cons_zero, List.getElem?_cons_succ] at y0 y1 y2 y3
          simp [results, Try.results39, go_sem, y0, y1, y2, y3]
        · exact HEX.out
      exact trivial
    exact trivial
  refine wpTree_alt rfl ?_ ?_
  · go_wp2_with fail
    refine ⟨grew_below (hb_z.alloc hb_z.size _), ?_⟩
    refine wpTree_gen (fun y => Below z.heap.size z y ∧ Blk y z.heap.size (ints .u32 (List.replicate c.spills 0)) 42) ⟨(Below.refl _ _).alloc (Nat.le_refl _) _, heap_new1 _ _⟩ ?_
    rintro y11 ⟨hby, Fs_y11⟩
    have hb_y11 : Below W.heap.size W y11 := hb_z.trans (hby.mono hb_z.size)
    have t_y11 := Fs_y11.lt
    have s_y11 := hby.size
    have k_y11 : W.heap.size ≤ y11.heap.size := hb_y11.size
    clear hby
    refine wpTree_alt rfl ?_ ?_
    · go_wp2_with fail
      refine (copied_any qa ca cq cc0 arr ctx _ (HG.out.below (HWZ.out _ hb_y11)) (HCTX.out.below (HWZ.out _ hb_y11)) hn H1.out hc).mono ?_
      rintro e y12 ⟨v, τ, ab, ac, cb, cc, rfl, hgo, hcx, tcb, hcb, hby⟩
      obtain ⟨va, vc, rfl⟩ := grid_slice hgo
      have FC_y12 := copy_done hgo hcx tcb hcb hb_y11.size
      clear hgo hcx tcb hcb
      have hb_y12 : Below W.heap.size W y12 := hb_y11.trans (hby.mono hb_y11.size)
      have Fs_y12 := Fs_y11.below hby Fs_y11.lt
      go_wp2_with fail
      refine ⟨grew_below hb_y12, ?_⟩
      have s_y12 := hby.size
      have k_y12 : W.heap.size ≤ y12.heap.size := hb_y12.size
      clear hby
      refine wpTree_alt rfl ?_ ?_
      · go_wp2_with fail
        refine ⟨grew_below (hb_y12.alloc hb_y12.size _), ?_⟩
        refine wpTree_gen (fun y => Below y12.heap.size y12 y ∧ Blk y y12.heap.size (ints .u32 (List.replicate c.regs 0)) 42) ⟨(Below.refl _ _).alloc (Nat.le_refl _) _, heap_new1 _ _⟩ ?_
        rintro y13 ⟨hby, Fr_y13⟩
        have hb_y13 : Below W.heap.size W y13 := hb_y12.trans (hby.mono hb_y12.size)
        have t_y13 := Fr_y13.lt
        have FC_y13 := FC_y12.below hby
        have Fs_y13 := Fs_y12.below hby Fs_y12.lt
        have s_y13 := hby.size
        have k_y13 : W.heap.size ≤ y13.heap.size := hb_y13.size
        clear hby
        have l_r := Fr_y13.lt
        have l_s := Fs_y13.lt
        have l_c := FC_y13.hz
        have PP : Parts W.heap.size c arr ctx y12.heap.size z.heap.size cb cc va vc y13 := FC_y13.parts Fr_y13 Fs_y13 (by omega) (by omega) (by omega) (by omega) (by omega) hb_y13.size
        have LF := guard_leaf HR.out (B0 := w.heap.size) HSZ.out PP (arsC := arsC) (codeC := codeC) (ptC := ptC) (HCD.out.below (HWZ.out _ hb_y13)) (HPT.out.below (HWZ.out _ hb_y13)) (HARS.out.below (HWZ.out _ hb_y13)) hn
        have HLF := Lib.hid LF
        clear LF PP
        refine wpTree_alt rfl ?_ trivial
        go_wp2_with fail
        refine ⟨grew_below (by first | exact hb_y13 | exact hb_y13.alloc hb_y13.size _), ?_⟩
        refine wpTree_alt rfl ?_ trivial
        go_wp2_with fail
        refine ⟨grew_below (by first | exact hb_y13 | exact hb_y13.alloc hb_y13.size _), ?_⟩
        refine wpTree_alt rfl ?_ trivial
        go_wp2_with fail
        refine ⟨grew_below (by first | exact hb_y13 | exact hb_y13.alloc hb_y13.size _), ?_⟩
        show Exit.then _ _ _ _ _
        go_wp2_with fail
        refine HLF.out.mono ?_
        intro e w9 hpost
        have HP := HEND.out y13 hb_y13 e w9 hpost
        clear hpost
        obtain ⟨hr9, qa', na, cq', ca', nb, cc', oa, no, oc, st, er, rfl, hex⟩ := HP
        have z0 : w9.cell? ⟨w.heap.size + 1 + 1 + 1, 0, none⟩ = some (.slice none 0 0) := hr9.cell 0
        have z1 : w9.cell? ⟨w.heap.size + 1 + 1 + 1, 0 + 1, none⟩ = some (.slice none 0 0) := hr9.cell 1
        have z2 : w9.cell? ⟨w.heap.size + 1 + 1 + 1, 0 + 1 + 1, none⟩ = some (.slice none 0 0) := hr9.cell 2
        have z3 : w9.cell? ⟨w.heap.size + 1 + 1 + 1, 0 + 1 + 1 + 1, none⟩ = some (.int .i64 0) := hr9.cell 3
        have f0 := hr9.frozen 0
        have f1 := hr9.frozen (0 + 1)
        have f2 := hr9.frozen (0 + 1 + 1)
        have f3 := hr9.frozen (0 + 1 + 1 + 1)
        have HEX := Lib.hid hex
        clear hex
        go_wp2
        refine bodyPost_ret (v := .tuple #[.agg #[.slice qa' na cq', .slice ca' nb cc', .slice oa no oc, .int .i64 st], .int .i64 er]) ?_ rfl ?_
        · have e0 := ((((hr9.set 0 (.slice qa' na cq')).set 1 (.slice ca' nb cc')).set 2 (.slice oa no oc)).set 3 (.int .i64 st))
          have y0 := e0.cell 0
          have y1 := e0.cell 1
          have y2 := e0.cell 2
          have y3 := e0.cell 3
          simp only [zeroRun, List.set_cons_zero, List.set_cons_succ, List.getElem?_cons_zero, List.getElem?_cons_succ] at y0 y1 y2 y3
          simp [results, Try.results39, go_sem, y0, y1, y2, y3]
        · exact HEX.out
      exact trivial
    refine wpTree_alt rfl ?_ ?_
    · go_wp2_with fail
      refine ⟨grew_below (hb_y11.alloc hb_y11.size _), ?_⟩
      refine wpTree_gen (fun y => Below y11.heap.size y11 y ∧ Blk y y11.heap.size (ints .u32 (List.replicate c.regs 0)) 42) ⟨(Below.refl _ _).alloc (Nat.le_refl _) _, heap_new1 _ _⟩ ?_
      rintro y14 ⟨hby, Fr_y14⟩
      have hb_y14 : Below W.heap.size W y14 := hb_y11.trans (hby.mono hb_y11.size)
      have t_y14 := Fr_y14.lt
      have Fs_y14 := Fs_y11.below hby Fs_y11.lt
      have s_y14 := hby.size
      have k_y14 : W.heap.size ≤ y14.heap.size := hb_y14.size
      clear hby
      refine wpTree_alt rfl ?_ ?_
      · go_wp2_with fail
        refine (copied_any qa ca cq cc0 arr ctx _ (HG.out.below (HWZ.out _ hb_y14)) (HCTX.out.below (HWZ.out _ hb_y14)) hn H1.out hc).mono ?_
        rintro e y15 ⟨v, τ, ab, ac, cb, cc, rfl, hgo, hcx, tcb, hcb, hby⟩
        obtain ⟨va, vc, rfl⟩ := grid_slice hgo
        have FC_y15 := copy_done hgo hcx tcb hcb hb_y14.size
        clear hgo hcx tcb hcb
        have hb_y15 : Below W.heap.size W y15 := hb_y14.trans (hby.mono hb_y14.size)
        have Fr_y15 := Fr_y14.below hby Fr_y14.lt
        have Fs_y15 := Fs_y14.below hby Fs_y14.lt
        go_wp2_with fail
        refine ⟨grew_below hb_y15, ?_⟩
        have s_y15 := hby.size
        have k_y15 : W.heap.size ≤ y15.heap.size := hb_y15.size
        clear hby
        have l_r := Fr_y15.lt
        have l_s := Fs_y15.lt
        have l_c := FC_y15.hz
        have PP : Parts W.heap.size c arr ctx y11.heap.size z.heap.size cb cc va vc y15 := FC_y15.parts Fr_y15 Fs_y15 (by omega) (by omega) (by omega) (by omega) (by omega) hb_y15.size
        have LF := guard_leaf HR.out (B0 := w.heap.size) HSZ.out PP (arsC := arsC) (codeC := codeC) (ptC := ptC) (HCD.out.below (HWZ.out _ hb_y15)) (HPT.out.below (HWZ.out _ hb_y15)) (HARS.out.below (HWZ.out _ hb_y15)) hn
        have HLF := Lib.hid LF
        clear LF PP
        refine wpTree_alt rfl ?_ trivial
        go_wp2_with fail
        refine ⟨grew_below (by first | exact hb_y15 | exact hb_y15.alloc hb_y15.size _), ?_⟩
        refine wpTree_alt rfl ?_ trivial
        go_wp2_with fail
        refine ⟨grew_below (by first | exact hb_y15 | exact hb_y15.alloc hb_y15.size _), ?_⟩
        refine wpTree_alt rfl ?_ trivial
        go_wp2_with fail
        refine ⟨grew_below (by first | exact hb_y15 | exact hb_y15.alloc hb_y15.size _), ?_⟩
        show Exit.then _ _ _ _ _
        go_wp2_with fail
        refine HLF.out.mono ?_
        intro e w9 hpost
        have HP := HEND.out y15 hb_y15 e w9 hpost
        clear hpost
        obtain ⟨hr9, qa', na, cq', ca', nb, cc', oa, no, oc, st, er, rfl, hex⟩ := HP
        have z0 : w9.cell? ⟨w.heap.size + 1 + 1 + 1, 0, none⟩ = some (.slice none 0 0) := hr9.cell 0
        have z1 : w9.cell? ⟨w.heap.size + 1 + 1 + 1, 0 + 1, none⟩ = some (.slice none 0 0) := hr9.cell 1
        have z2 : w9.cell? ⟨w.heap.size + 1 + 1 + 1, 0 + 1 + 1, none⟩ = some (.slice none 0 0) := hr9.cell 2
        have z3 : w9.cell? ⟨w.heap.size + 1 + 1 + 1, 0 + 1 + 1 + 1, none⟩ = some (.int .i64 0) := hr9.cell 3
        have f0 := hr9.frozen 0
        have f1 := hr9.frozen (0 + 1)
        have f2 := hr9.frozen (0 + 1 + 1)
        have f3 := hr9.frozen (0 + 1 + 1 + 1)
        have HEX := Lib.hid hex
        clear hex
        go_wp2
        refine bodyPost_ret (v := .tuple #[.agg #[.slice qa' na cq', .slice ca' nb cc', .slice oa no oc, .int .i64 st], .int .i64 er]) ?_ rfl ?_
        · have e0 := ((((hr9.set 0 (.slice qa' na cq')).set 1 (.slice ca' nb cc')).set 2 (.slice oa no oc)).set 3 (.int .i64 st))
          have y0 := e0.cell 0
          have y1 := e0.cell 1
          have y2 := e0.cell 2
          have y3 := e0.cell 3
          simp only [zeroRun, List.set_cons_zero, List.set_cons_succ, List.getElem?_cons_zero, List.getElem?_cons_succ] at y0 y1 y2 y3
          simp [results, Try.results39, go_sem, y0, y1, y2, y3]
        · exact HEX.out
      exact trivial
    exact trivial
  exact trivial

end Go.Proofs.Ytefdnjhhaejgbaa

namespace Go.Proofs.Ytefdnjhhaejgbaa
open Go.RowKit
set_option linter.unusedVariables false

/-- the code of a run -/
def mkMC (ars : List Ar) (regs spills : Int) (cd : List RI) (input : Int) (ended : Bool) (fuel : Int) : MC := ⟨cd, ars, regs.toNat, spills.toNat, ptOf cd, input, ended, fuel⟩

/-- the result of Run: an error, or what the run yields -/
def runRes (ars : List Ar) (regs spills : Int) (cd : List RI) (arr : List (List Int)) (ctx : List Int) (fuel : Int) (r : Except Int PS) : Except Int PS :=
  if (chkCode ars regs spills cd).2 ≠ 0 then .error (chkCode ars regs spills cd).2 else if fitsB ars arr ctx.length = false then .error 3 else if fuel < 0 ∨ 281474976710656 < fuel then .error 2 else r

theorem fits_lens {ars : List Ar} {arr : List (List Int)} {n : Nat} (h : fitsB ars arr n = true) : arr.length = ars.length ∧ n = 16 ∧ ∀ k, k < arr.length → ((arr.getD k []).length : Int) = (ars.getD k default).size := by
  unfold fitsB at h
  simp only [Bool.and_eq_true, decide_eq_true_eq, List.all_eq_true, List.mem_range] at h
  obtain ⟨⟨h1, h2⟩, h3⟩ := h
  refine ⟨h1, h2, fun k hk => ?_⟩
  have := h3 k (by omega)
  unfold fitB at this
  simp only [Bool.and_eq_true, decide_eq_true_eq] at this
  exact this.1

/-- the boxes of 'Run' -/
def RunBoxes (w : World) (c1 c2 c3 : List Value) (z : World) : Prop :=
  Below w.heap.size w z ∧ Blk z w.heap.size c1 25 ∧ Blk z (w.heap.size + 1) c2 31 ∧ Blk z (w.heap.size + 1 + 1) c3 44 ∧ Blk z (w.heap.size + 1 + 1 + 1) zeroRun 49 ∧ z.heap.size = w.heap.size + 4
theorem run_boxes (w : World) (c1 c2 c3 : List Value) : RunBoxes w c1 c2 c3 ((((w.alloc (.cells c1.toArray 25)).alloc (.cells c2.toArray 31)).alloc (.cells c3.toArray 44)).alloc (.cells #[.slice none 0 0, .slice none 0 0, .slice none 0 0, .int .i64 0] 49)) := by
  refine ⟨((((Below.refl _ _).alloc (by simp) _).alloc (by simp) _).alloc (by simp; omega) _).alloc (by simp; omega) _, ?_, ?_, ?_, ?_, by simp⟩
  · unfold Blk
    rw [Below.heap_alloc _ _ _ (by simp; omega), Below.heap_alloc _ _ _ (by simp; omega), Below.heap_alloc _ _ _ (by simp)]
    exact heap_new1 _ _
  · unfold Blk
    rw [Below.heap_alloc _ _ _ (by simp), Below.heap_alloc _ _ _ (by simp)]
    exact heap_new2 _ _ _
  · unfold Blk
    rw [Below.heap_alloc _ _ _ (by simp)]
    exact heap_new3 _ _ _ _
  · unfold Blk
    have := heap_new1 (((w.alloc (.cells c1.toArray 25)).alloc (.cells c2.toArray 31)).alloc (.cells c3.toArray 44)) (.cells #[.slice none 0 0, .slice none 0 0, .slice none 0 0, .int .i64 0] 49)
    simpa [zeroRun] using this

theorem run_exec (ars : List Ar) (regs spills : Int) (cd : List RI) (arr : List (List Int)) (ctx : List Int) (input : Int) (ended : Bool) (fuel : Int) (r : Except Int PS) (arsA codeA qa ca : Option Addr) (arsC codeC cq cc : Nat) (w : World)
    (G : InOrd ars regs spills cd) (hr : RunsTo (mkMC ars regs spills cd input ended fuel) ((mkMC ars regs spills cd input ended fuel).init arr ctx) r) (hf : fitsB ars arr ctx.length = true) (pb : Nat) (hpt : Blk w pb (natsV (ptOf cd)) 3) (hpl : pb < w.heap.size)
    (hars : RowB w.heap.size w 2 arsA ars.length fun i j => (ars.getD i default).cell j) (hcd : RowB w.heap.size w 5 codeA cd.length fun i j => (cd.getD i default).cell j) (hg : GridR w qa arr) (hctx : RowB w.heap.size w 1 ca ctx.length fun j _ => .int .u32 (ctx.getD j 0)) :
    Calls Try.prog 39 #[.agg #[.slice arsA ars.length arsC, .int .i64 regs, .int .i64 spills, .slice codeA cd.length codeC], .slice (some ⟨pb, 0, none⟩) cd.length cd.length, .agg #[.slice qa arr.length cq, .slice ca ctx.length cc], .agg #[.int .u32 input, .bool ended, .int .i64 fuel]] w (ExecPost w r) := by
  obtain ⟨h1, h2, h3⟩ := fits_lens hf
  have hnz : ∀ a ∈ arr, 0 < a.length ∧ a.length ≤ 65536 := fun a ha => by
    obtain ⟨k, hk, rfl⟩ := List.getElem_of_mem ha
    have e := h3 k hk
    have hm := G.hars (ars.getD k default) (by rw [List.getD_eq_getElem?_getD, List.getElem?_eq_getElem (by omega)]; exact List.getElem_mem _)
    rw [List.getD_eq_getElem?_getD, List.getElem?_eq_getElem hk, Option.getD_some] at e
    omega
  have hrow : RowB w.heap.size w 1 (some ⟨pb, 0, none⟩) (ptOf cd).length fun i _ => .int .i64 ((ptOf cd).getD i 0 : Nat) := by
    intro i hi
    refine ⟨pb, 0, rfl, hpl, fun j hj => ?_⟩
    have : j = 0 := by omega
    subst this
    simp only [Nat.mul_one, Nat.add_zero, Nat.zero_add]
    rw [hpt.cell, natsV_get hi]
  have e1 : (regs.toNat : Int) = regs := Int.toNat_of_nonneg G.hregs.1
  have e2 : (spills.toNat : Int) = spills := Int.toNat_of_nonneg G.hspl.1
  have hA := G.hnA
  have hR := G.hregs
  have hS := G.hspl
  have := execute_any (mkMC ars regs spills cd input ended fuel) arr ctx r hr arsA codeA (some ⟨pb, 0, none⟩) qa ca arsC codeC cd.length cq cc w hcd hrow hars (hg.toAt fun a ha => (hnz a ha).1) (hctx.nums (by omega)) (by omega) hnz (by omega) (by simp only [mkMC]; omega) (by simp only [mkMC]; omega)
  simp only [mkMC, e1, e2, ptOf_length] at this
  exact this

theorem run_end {w Z V : World} {r : Except Int PS} {e : Ending} (hb : Below w.heap.size w Z) (hk : Blk Z (w.heap.size + 1 + 1 + 1) zeroRun 49) (h : ExecPost Z r e V) :
    Blk V (w.heap.size + 1 + 1 + 1) zeroRun 49 ∧ ∃ qa na cq ca nb cc oa no oc st er, e = .returned (.tuple #[.agg #[.slice qa na cq, .slice ca nb cc, .slice oa no oc, .int .i64 st], .int .i64 er]) ∧
    ExecPost w r e ((((V.setCell ⟨w.heap.size + 1 + 1 + 1, 0, none⟩ (.slice qa na cq)).setCell ⟨w.heap.size + 1 + 1 + 1, 1, none⟩ (.slice ca nb cc)).setCell ⟨w.heap.size + 1 + 1 + 1, 2, none⟩ (.slice oa no oc)).setCell ⟨w.heap.size + 1 + 1 + 1, 3, none⟩ (.int .i64 st)) := by
  obtain ⟨h1, h2⟩ := h
  have hlt := hk.lt
  have hx : w.heap.size ≤ w.heap.size + 1 + 1 + 1 := by omega
  have hr9 := hk.below h1 hlt
  have hbel := fun v0 v1 v2 v3 => ((((hb.trans (h1.mono hb.size)).setCell (p := ⟨w.heap.size + 1 + 1 + 1, 0, none⟩) hx v0).setCell (p := ⟨w.heap.size + 1 + 1 + 1, 1, none⟩) hx v1).setCell (p := ⟨w.heap.size + 1 + 1 + 1, 2, none⟩) hx v2).setCell (p := ⟨w.heap.size + 1 + 1 + 1, 3, none⟩) hx v3
  cases r with
  | ok s =>
    obtain ⟨v, rfl, hv⟩ := h2
    obtain ⟨qa, cq, ca, cc, oa, oc, rfl, _⟩ := hv V (fun _ _ => rfl) rfl
    refine ⟨hr9, _, _, _, _, _, _, _, _, _, _, _, rfl, hbel _ _ _ _, _, rfl, fun w2 h5 h6 => hv w2 (fun k hk => ?_) (by rw [h6]; simp [World.setCell])⟩
    have hne : k ≠ w.heap.size + 1 + 1 + 1 := by omega
    have := hb.size
    rw [h5 k (by omega), Below.heap_setCell _ _ _ _ hne, Below.heap_setCell _ _ _ _ hne, Below.heap_setCell _ _ _ _ hne, Below.heap_setCell _ _ _ _ hne]
  | error n => exact ⟨hr9, _, _, _, _, _, _, _, _, _, _, _, h2, hbel _ _ _ _, h2⟩

set_option maxRecDepth 100000 in
set_option maxHeartbeats 1000000 in
theorem Run_any (arsA codeA qa ca : Option Addr) (arsC codeC cq cc : Nat) (ars : List Ar) (regs spills : Int) (cd : List RI) (arr : List (List Int)) (ctx : List Int) (input : Int) (ended : Bool) (fuel : Int) (w : World)
    (hars : RowB w.heap.size w 2 arsA ars.length fun i j => (ars.getD i default).cell j) (hcd : RowB w.heap.size w 5 codeA cd.length fun i j => (cd.getD i default).cell j)
    (hg : GridR w qa arr) (hctx : RowB w.heap.size w 1 ca ctx.length fun j _ => .int .u32 (ctx.getD j 0))
    (hA : ars.length ≤ 9223372036854775806) (hC : cd.length ≤ 9223372036854775807) (harg : ∀ i ∈ cd, 0 ≤ i.arg ∧ i.arg < 4294967296) (hl : ∀ a ∈ arr, a.length ≤ 9223372036854775806)
    (r : Except Int PS) (hr : (chkCode ars regs spills cd).2 = 0 → fitsB ars arr ctx.length = true → 0 ≤ fuel ∧ fuel ≤ 281474976710656 → RunsTo (mkMC ars regs spills cd input ended fuel) ((mkMC ars regs spills cd input ended fuel).init arr ctx) r) :
    Calls Try.prog 18 #[.agg #[.slice arsA ars.length arsC, .int .i64 regs, .int .i64 spills, .slice codeA cd.length codeC], .agg #[.slice qa arr.length cq, .slice ca ctx.length cc], .agg #[.int .u32 input, .bool ended, .int .i64 fuel]] w
      (ExecPost w (runRes ars regs spills cd arr ctx fuel r)) := by
  have HARS := Lib.hid hars
  have HCD := Lib.hid hcd
  have HARG := Lib.hid harg
  have HG := Lib.hid hg
  have HCTX := Lib.hid hctx
  have HL := Lib.hid hl
  have HR := Lib.hid hr
  clear hars hcd harg hg hctx hl hr
  go_enter Try.func18, Try.ntmps18
  go_upto_region 1 with (fail)
  refine wp_gen _ (run_boxes w [.slice arsA ars.length arsC, .int .i64 regs, .int .i64 spills, .slice codeA cd.length codeC] [.slice qa arr.length cq, .slice ca ctx.length cc] [.int .u32 input, .bool ended, .int .i64 fuel]) ?_
  rintro W ⟨hbW, k1, k2, k3, k4, hsz⟩
  have HCH := Lib.hid (Check_any arsA codeA arsC codeC ars regs spills cd W ((HARS.out.below hbW).mono hbW.size) ((HCD.out.below hbW).mono hbW.size) (by omega) hC HARG.out)
  have a0 : W.cell? ⟨w.heap.size, 0, none⟩ = some (.slice arsA ars.length arsC) := k1.cell 0
  have a1 : W.cell? ⟨w.heap.size, 0 + 1, none⟩ = some (.int .i64 regs) := k1.cell 1
  have a2 : W.cell? ⟨w.heap.size, 0 + 1 + 1, none⟩ = some (.int .i64 spills) := k1.cell 2
  have a3 : W.cell? ⟨w.heap.size, 0 + 1 + 1 + 1, none⟩ = some (.slice codeA cd.length codeC) := k1.cell 3
  have HW := Lib.hid (And.intro hbW (And.intro k1 (And.intro k2 (And.intro k3 (And.intro k4 hsz)))))
  clear hbW k1 k2 k3 k4 hsz
  obtain ⟨ce, hce⟩ : ∃ ce, chkCode ars regs spills cd = ce := ⟨_, rfl⟩
  have HCE := Lib.hid hce
  clear hce
  -- the end of the three ways with an error
  have ends : ∀ (Y : World) (er : Int), Below W.heap.size W Y → runRes ars regs spills cd arr ctx fuel r = .error er →
      Blk Y (w.heap.size + 1 + 1 + 1) zeroRun 49 ∧ ExecPost w (runRes ars regs spills cd arr ctx fuel r) (.returned (.tuple #[.agg #[.slice none 0 0, .slice none 0 0, .slice none 0 0, .int .i64 0], .int .i64 er]))
        ((((Y.setCell ⟨w.heap.size + 1 + 1 + 1, 0, none⟩ (.slice none 0 0)).setCell ⟨w.heap.size + 1 + 1 + 1, 1, none⟩ (.slice none 0 0)).setCell ⟨w.heap.size + 1 + 1 + 1, 2, none⟩ (.slice none 0 0)).setCell ⟨w.heap.size + 1 + 1 + 1, 3, none⟩ (.int .i64 0)) := by
    intro Y er hY hrr
    obtain ⟨hbW, _, _, _, k4, hsz⟩ := HW.out
    have hx : w.heap.size ≤ w.heap.size + 1 + 1 + 1 := by omega
    refine ⟨k4.below hY (by omega), ?_⟩
    rw [hrr]
    exact ⟨((((hbW.trans (hY.mono hbW.size)).setCell hx _).setCell hx _).setCell hx _).setCell hx _, rfl⟩
  have HEND := Lib.hid ends
  clear ends
  by_cases hz : ce.2 = 0
  rotate_left
  · have hne : (ce.2 != 0) = true := by simpa using hz
    have hrr : runRes ars regs spills cd arr ctx fuel r = .error ce.2 := by unfold runRes; rw [HCE.out, if_pos hz]
    have HRR := Lib.hid hrr
    clear hz hrr
    go_wp2_with fail
    refine HCH.out.mono ?_
    rintro e Y ⟨he, hbY⟩
    rw [HCE.out] at he
    subst he
    obtain ⟨hr9, hex⟩ := HEND.out Y ce.2 hbY HRR.out
    have z0 : Y.cell? ⟨w.heap.size + 1 + 1 + 1, 0, none⟩ = some (.slice none 0 0) := hr9.cell 0
    have z1 : Y.cell? ⟨w.heap.size + 1 + 1 + 1, 0 + 1, none⟩ = some (.slice none 0 0) := hr9.cell 1
    have z2 : Y.cell? ⟨w.heap.size + 1 + 1 + 1, 0 + 1 + 1, none⟩ = some (.slice none 0 0) := hr9.cell 2
    have z3 : Y.cell? ⟨w.heap.size + 1 + 1 + 1, 0 + 1 + 1 + 1, none⟩ = some (.int .i64 0) := hr9.cell 3
    have f0 := hr9.frozen 0
    have f1 := hr9.frozen (0 + 1)
    have f2 := hr9.frozen (0 + 1 + 1)
    have f3 := hr9.frozen (0 + 1 + 1 + 1)
    have HEX := Lib.hid hex
    clear hex hbY
    go_wp2
    refine bodyPost_ret (v := .tuple #[.agg #[.slice none 0 0, .slice none 0 0, .slice none 0 0, .int .i64 0], .int .i64 ce.2]) ?_ rfl ?_
    · have e0 := ((((hr9.set 0 (.slice none 0 0)).set 1 (.slice none 0 0)).set 2 (.slice none 0 0)).set 3 (.int .i64 0))
      have y0 := e0.cell 0
      have y1 := e0.cell 1
      have y2 := e0.cell 2
      have y3 := e0.cell 3
      simp only [zeroRun, List.set_cons_zero, List.set_cons_succ, List.getElem?_cons_zero, List.getElem?_cons_succ] at y0 y1 y2 y3
      simp [results, Try.results18, go_sem, y0, y1, y2, y3]
    · exact HEX.out
  have G := chk_good (ars := ars) (regs := regs) (spills := spills) (cd := cd) (by rw [HCE.out]; exact hz)
  have HZ := Lib.hid hz
  have HGO := Lib.hid G
  clear hz G
  go_wp2_with fail
  refine HCH.out.mono ?_
  rintro e Y ⟨he, hbY⟩
  rw [HCE.out, HZ.out] at he
  subst he
  clear a0 a1 a2 a3
  have l0 : w.heap.size + 3 < W.heap.size := by have := HW.out.2.2.2.2.2; omega
  have b1 : Blk Y w.heap.size [.slice arsA ars.length arsC, .int .i64 regs, .int .i64 spills, .slice codeA cd.length codeC] 25 := HW.out.2.1.below hbY (by omega)
  have b2 : Blk Y (w.heap.size + 1) [.slice qa arr.length cq, .slice ca ctx.length cc] 31 := HW.out.2.2.1.below hbY (by omega)
  have b3 : Blk Y (w.heap.size + 1 + 1) [.int .u32 input, .bool ended, .int .i64 fuel] 44 := HW.out.2.2.2.1.below hbY (by omega)
  have a0 : Y.cell? ⟨w.heap.size, 0, none⟩ = some (.slice arsA ars.length arsC) := b1.cell 0
  have m0 : Y.cell? ⟨w.heap.size + 1, 0, none⟩ = some (.slice qa arr.length cq) := b2.cell 0
  have m1 : Y.cell? ⟨w.heap.size + 1, 0 + 1, none⟩ = some (.slice ca ctx.length cc) := b2.cell 1
  have hwY : Below w.heap.size w Y := HW.out.1.trans (hbY.mono HW.out.1.size)
  have HFT := Lib.hid (fits_any arsA qa ca arsC cq cc ctx.length ars arr Y ((HARS.out.below hwY).mono hwY.size) (HG.out.below hwY) hA HL.out)
  have HY := Lib.hid (And.intro hbY (And.intro b1 (And.intro b2 (And.intro b3 hwY))))
  clear hbY b1 b2 b3 hwY HCH
  go_wp2_with fail
  refine HFT.out.mono ?_
  rintro e X ⟨he, hbX⟩
  have HBY := Lib.hid (show Below W.heap.size W X from HY.out.1.trans (hbX.mono HY.out.1.size))
  have lY : w.heap.size + 3 < Y.heap.size := by have := HY.out.1.size; omega
  cases hf : fitsB ars arr ctx.length
  · rw [hf] at he
    subst he
    have hrr : runRes ars regs spills cd arr ctx fuel r = .error 3 := by unfold runRes; rw [HCE.out, if_neg (by simp [HZ.out]), if_pos hf]
    have HRR := Lib.hid hrr
    clear hf hrr hbX a0 m0 m1
    obtain ⟨hr9, hex⟩ := HEND.out X 3 HBY.out HRR.out
    have z0 : X.cell? ⟨w.heap.size + 1 + 1 + 1, 0, none⟩ = some (.slice none 0 0) := hr9.cell 0
    have z1 : X.cell? ⟨w.heap.size + 1 + 1 + 1, 0 + 1, none⟩ = some (.slice none 0 0) := hr9.cell 1
    have z2 : X.cell? ⟨w.heap.size + 1 + 1 + 1, 0 + 1 + 1, none⟩ = some (.slice none 0 0) := hr9.cell 2
    have z3 : X.cell? ⟨w.heap.size + 1 + 1 + 1, 0 + 1 + 1 + 1, none⟩ = some (.int .i64 0) := hr9.cell 3
    have f0 := hr9.frozen (0)
    have f1 := hr9.frozen (0 + 1)
    have f2 := hr9.frozen (0 + 1 + 1)
    have f3 := hr9.frozen (0 + 1 + 1 + 1)
    have HEX := Lib.hid hex
    clear hex
    go_wp2
    refine bodyPost_ret (v := .tuple #[.agg #[.slice none 0 0, .slice none 0 0, .slice none 0 0, .int .i64 0], .int .i64 3]) ?_ rfl ?_
    · have e0 := ((((hr9.set 0 (.slice none 0 0)).set 1 (.slice none 0 0)).set 2 (.slice none 0 0)).set 3 (.int .i64 0))
      have y0 := e0.cell 0
      have y1 := e0.cell 1
      have y2 := e0.cell 2
      have y3 := e0.cell 3
      simp only [zeroRun, List.set_cons_zero, List.set_cons_succ, List.getElem?_cons_zero, List.getElem?_cons_succ] at y0 y1 y2 y3
      simp [results, Try.results18, go_sem, y0, y1, y2, y3]
    · exact HEX.out
  rw [hf] at he
  subst he
  have HF := Lib.hid hf
  clear hf
  have b1 : Blk X w.heap.size [.slice arsA ars.length arsC, .int .i64 regs, .int .i64 spills, .slice codeA cd.length codeC] 25 := HY.out.2.1.below hbX (by omega)
  have b2 : Blk X (w.heap.size + 1) [.slice qa arr.length cq, .slice ca ctx.length cc] 31 := HY.out.2.2.1.below hbX (by omega)
  have b3 : Blk X (w.heap.size + 1 + 1) [.int .u32 input, .bool ended, .int .i64 fuel] 44 := HY.out.2.2.2.1.below hbX (by omega)
  have hwX : Below w.heap.size w X := HY.out.2.2.2.2.trans (hbX.mono (by omega))
  have lX : w.heap.size + 3 < X.heap.size := by have := hbX.size; omega
  have d2 : X.cell? ⟨w.heap.size + 1 + 1, 2, none⟩ = some (.int .i64 fuel) := b3.cell 2
  clear a0 m0 m1
  have HX := Lib.hid (And.intro b1 (And.intro b2 (And.intro b3 hwX)))
  clear b1 b2 b3 hwX hbX
  have HAL := Lib.hid (allowed_any fuel X)
  by_cases hfu : 0 ≤ fuel ∧ fuel ≤ 281474976710656
  rotate_left
  · have hrr : runRes ars regs spills cd arr ctx fuel r = .error 2 := by unfold runRes; rw [HCE.out, if_neg (by simp [HZ.out]), if_neg (by simp [HF.out]), if_pos (by omega)]
    have HRR := Lib.hid hrr
    have hal : (decide (0 ≤ fuel) && decide (fuel ≤ 281474976710656)) = false := by
      by_cases h : 0 ≤ fuel
      · simp [h]; omega
      · simp [h]
    have HALF := Lib.hid hal
    clear hrr hal
    go_wp2_with fail
    refine HAL.out.mono ?_
    rintro e X' ⟨he, rfl⟩
    rw [HALF.out] at he
    subst he
    obtain ⟨hr9, hex⟩ := HEND.out X 2 HBY.out HRR.out
    have z0 : X.cell? ⟨w.heap.size + 1 + 1 + 1, 0, none⟩ = some (.slice none 0 0) := hr9.cell 0
    have z1 : X.cell? ⟨w.heap.size + 1 + 1 + 1, 0 + 1, none⟩ = some (.slice none 0 0) := hr9.cell 1
    have z2 : X.cell? ⟨w.heap.size + 1 + 1 + 1, 0 + 1 + 1, none⟩ = some (.slice none 0 0) := hr9.cell 2
    have z3 : X.cell? ⟨w.heap.size + 1 + 1 + 1, 0 + 1 + 1 + 1, none⟩ = some (.int .i64 0) := hr9.cell 3
    have f0 := hr9.frozen (0)
    have f1 := hr9.frozen (0 + 1)
    have f2 := hr9.frozen (0 + 1 + 1)
    have f3 := hr9.frozen (0 + 1 + 1 + 1)
    have HEX := Lib.hid hex
    clear hex
    go_wp2
    refine bodyPost_ret (v := .tuple #[.agg #[.slice none 0 0, .slice none 0 0, .slice none 0 0, .int .i64 0], .int .i64 2]) ?_ rfl ?_
    · have e0 := ((((hr9.set 0 (.slice none 0 0)).set 1 (.slice none 0 0)).set 2 (.slice none 0 0)).set 3 (.int .i64 0))
      have y0 := e0.cell 0
      have y1 := e0.cell 1
      have y2 := e0.cell 2
      have y3 := e0.cell 3
      simp only [zeroRun, List.set_cons_zero, List.set_cons_succ, List.getElem?_cons_zero, List.getElem?_cons_succ] at y0 y1 y2 y3
      simp [results, Try.results18, go_sem, y0, y1, y2, y3]
    · exact HEX.out
  have hal : (decide (0 ≤ fuel) && decide (fuel ≤ 281474976710656)) = true := by simp [hfu.1, hfu.2]
  have HALF := Lib.hid hal
  clear hal
  have hrr : runRes ars regs spills cd arr ctx fuel r = r := by unfold runRes; rw [HCE.out, if_neg (by simp [HZ.out]), if_neg (by simp [HF.out]), if_neg (by omega)]
  have HRT := Lib.hid (HR.out (by rw [HCE.out]; exact HZ.out) HF.out hfu)
  have HRR := Lib.hid hrr
  clear hrr HEND
  have a0 : X.cell? ⟨w.heap.size, 0, none⟩ = some (.slice arsA ars.length arsC) := HX.out.1.cell 0
  have a1 : X.cell? ⟨w.heap.size, 0 + 1, none⟩ = some (.int .i64 regs) := HX.out.1.cell 1
  have a2 : X.cell? ⟨w.heap.size, 0 + 1 + 1, none⟩ = some (.int .i64 spills) := HX.out.1.cell 2
  have a3 : X.cell? ⟨w.heap.size, 0 + 1 + 1 + 1, none⟩ = some (.slice codeA cd.length codeC) := HX.out.1.cell 3
  have a3' : X.cell? ⟨w.heap.size, 3, none⟩ = some (.slice codeA cd.length codeC) := HX.out.1.cell 3
  have m0 : X.cell? ⟨w.heap.size + 1, 0, none⟩ = some (.slice qa arr.length cq) := HX.out.2.1.cell 0
  have m1 : X.cell? ⟨w.heap.size + 1, 0 + 1, none⟩ = some (.slice ca ctx.length cc) := HX.out.2.1.cell 1
  have d0 : X.cell? ⟨w.heap.size + 1 + 1, 0, none⟩ = some (.int .u32 input) := HX.out.2.2.1.cell 0
  have d1 : X.cell? ⟨w.heap.size + 1 + 1, 0 + 1, none⟩ = some (.bool ended) := HX.out.2.2.1.cell 1
  have d2' : X.cell? ⟨w.heap.size + 1 + 1, 0 + 1 + 1, none⟩ = some (.int .i64 fuel) := HX.out.2.2.1.cell 2
  have l0' : w.heap.size < X.heap.size := by omega
  have l1 : w.heap.size + 1 < X.heap.size := by omega
  have l2 : w.heap.size + 1 + 1 < X.heap.size := by omega
  go_wp2_with fail
  refine HAL.out.mono ?_
  rintro e X' ⟨he, rfl⟩
  rw [HALF.out] at he
  subst he
  go_wp2_with fail
  refine wp_region_grew [0, 2, 4, 5] [1, 7] [(2, 1), (1, 0), (1, 2), (1, 4), (1, 5), (0, 3), (0, 6), (2, 7), (0, 8), (0, 9), (0, 10)] (by kernel_rfl) (by kernel_rfl) (fun c a d v w h => by cases d <;> exact h) ?_
  simp only [getPlan, List.filterMap_cons, List.filterMap_nil, List.getElem?_toArray, List.getElem?_cons_succ, List.getElem?_cons_zero, Option.map_some]
  repeat ((first | refine wpPlan_pure (fun K hK => ?_) | refine wpPlan_float (fun K hK => ?_)); go_simp; refine hK _ ?_; clear hK K)
  clear a0 a1 a2 a3 a3' m0 m1 d0 d1 d2 d2'
  have HPA := Lib.hid (partners_any codeA codeC cd X.drew ((HCD.out.below HX.out.2.2.2.drew).mono HX.out.2.2.2.drew.size) HGO.out.hcd HGO.out.hnest)
  refine wpPlan_keep ?_
  go_wp2_with fail
  refine HPA.out.mono ?_
  rintro e Z ⟨rfl, hpk, hbZ0⟩
  have hbZ : Below X.heap.size X Z := below_undrew hbZ0
  have EX := run_exec ars regs spills cd arr ctx input ended fuel r arsA codeA qa ca arsC codeC cq cc Z HGO.out HRT.out HF.out X.heap.size hpk (Nat.lt_of_lt_of_le hpk.lt (Nat.le_refl _))
    ((HARS.out.below (HX.out.2.2.2.trans (hbZ.mono (by omega)))).mono (HX.out.2.2.2.trans (hbZ.mono (by omega))).size) ((HCD.out.below (HX.out.2.2.2.trans (hbZ.mono (by omega)))).mono (HX.out.2.2.2.trans (hbZ.mono (by omega))).size)
    (HG.out.below (HX.out.2.2.2.trans (hbZ.mono (by omega)))) ((HCTX.out.below (HX.out.2.2.2.trans (hbZ.mono (by omega)))).mono (HX.out.2.2.2.trans (hbZ.mono (by omega))).size)
  have HE := Lib.hid EX
  have HBZ := Lib.hid hbZ
  clear EX hpk hbZ0 hbZ
  go_wp2_with fail
  refine ⟨grew_below HBZ.out, ?_⟩
  refine wpPlan_sees (by kernel_rfl) ?_
  go_wp2_with fail
  refine HE.out.mono ?_
  intro e V hex
  have hk4 : Blk Z (w.heap.size + 1 + 1 + 1) zeroRun 49 := (HW.out.2.2.2.2.1.below HBY.out (by omega)).below HBZ.out (by omega)
  obtain ⟨hr9, qa', na, cq', ca', nb, cc', oa, no, oc, st, er, rfl, hfin⟩ := run_end (HX.out.2.2.2.trans (HBZ.out.mono (by omega))) hk4 hex
  have z0 : V.cell? ⟨w.heap.size + 1 + 1 + 1, 0, none⟩ = some (.slice none 0 0) := hr9.cell 0
  have z1 : V.cell? ⟨w.heap.size + 1 + 1 + 1, 0 + 1, none⟩ = some (.slice none 0 0) := hr9.cell 1
  have z2 : V.cell? ⟨w.heap.size + 1 + 1 + 1, 0 + 1 + 1, none⟩ = some (.slice none 0 0) := hr9.cell 2
  have z3 : V.cell? ⟨w.heap.size + 1 + 1 + 1, 0 + 1 + 1 + 1, none⟩ = some (.int .i64 0) := hr9.cell 3
  have f0 := hr9.frozen 0
  have f1 := hr9.frozen (0 + 1)
  have f2 := hr9.frozen (0 + 1 + 1)
  have f3 := hr9.frozen (0 + 1 + 1 + 1)
  have HFIN := Lib.hid hfin
  clear hex hk4 hfin
  go_wp2_with fail
  repeat ((first | refine wpPlan_pure (fun K hK => ?_) | refine wpPlan_float (fun K hK => ?_)); go_simp; refine hK _ ?_; clear hK K)
  refine wpPlan_tail (by kernel_rfl) ?_
  simp only [List.map_cons, List.map_nil]
  go_wp2
  refine bodyPost_ret (v := .tuple #[.agg #[.slice qa' na cq', .slice ca' nb cc', .slice oa no oc, .int .i64 st], .int .i64 er]) ?_ rfl ?_
  · have e0 := ((((hr9.set 0 (.slice qa' na cq')).set 1 (.slice ca' nb cc')).set 2 (.slice oa no oc)).set 3 (.int .i64 st))
    have y0 := e0.cell 0
    have y1 := e0.cell 1
    have y2 := e0.cell 2
    have y3 := e0.cell 3
    simp only [zeroRun, List.set_cons_zero, List.set_cons_succ, List.getElem?_cons_zero, List.getElem?_cons_succ] at y0 y1 y2 y3
    simp [results, Try.results18, go_sem, y0, y1, y2, y3]
  · rw [HRR.out]
    exact HFIN.out
end Go.Proofs.Ytefdnjhhaejgbaa

namespace Go.Proofs.Ytefdnjhhaejgbaa
open Go.RowKit
set_option linter.unusedVariables false

theorem good_tree {ars : List Ar} {regs spills : Int} {cd : List RI} (G : InOrd ars regs spills cd) (harg : ∀ i ∈ cd, 0 ≤ i.arg ∧ i.arg < 4294967296) (input : Int) (ended : Bool) (fuel : Int) : ∃ t : T, RCode (mkMC ars regs spills cd input ended fuel) t := by
  obtain ⟨t, h1, h2⟩ := parse_all cd G.hnest
  have e1 : (regs.toNat : Int) = regs := Int.toNat_of_nonneg G.hregs.1
  have e2 : (spills.toNat : Int) = spills := Int.toNat_of_nonneg G.hspl.1
  refine ⟨t, h1, h2, ?_, fun i hi => ?_, fun i hi => harg i hi⟩
  · show ptOf cd = _
    rw [h1]; exact ptOf_flat t h2
  · show chkI (regs.toNat : Int) (spills.toNat : Int) _ i = 0
    rw [e1, e2]; exact G.hins i hi

theorem init_inv {ars : List Ar} {regs spills : Int} {cd : List RI} (G : InOrd ars regs spills cd) {arr : List (List Int)} {ctx : List Int} {input : Int} {ended : Bool} {fuel : Int} (hf : fitsB ars arr ctx.length = true) (ha : ∀ a ∈ arr, u32s a) (hc : u32s ctx) (hi : u32 input)
    (hfu : 0 ≤ fuel ∧ fuel ≤ 281474976710656) (t : T) : RInv (mkMC ars regs spills cd input ended fuel) t ((mkMC ars regs spills cd input ended fuel).init arr ctx) := by
  obtain ⟨h1, h2, h3⟩ := fits_lens hf
  have hR := G.hregs
  have hS := G.hspl
  have hA := G.hnA
  have hC := G.hcd
  have hz : ∀ n : Nat, u32s (List.replicate n 0) := fun n x hx => by rw [List.eq_of_mem_replicate hx]; omega
  refine ⟨⟨by simp [MC.init], by simp [MC.init], by simp [MC.init, mkMC, h1], by simp [MC.init, h2], by simp [mkMC, ptOf_length], hz _, hz _, ha, fun a ha' => ?_, hc, (fun p hp => by cases hp), by simp [MC.init], (fun x hx => by cases hx), by simp [MC.init], Int.le_refl _, hfu.1, hfu.2, Nat.zero_le _, hC, by simp only [mkMC]; omega, by simp only [mkMC]; omega, hA, hi⟩, ?_⟩
  · obtain ⟨k, hk, rfl⟩ := List.getElem_of_mem (show a ∈ arr from ha')
    have e := h3 k hk
    have hm := G.hars (ars.getD k default) (by rw [List.getD_eq_getElem?_getD, List.getElem?_eq_getElem (by omega)]; exact List.getElem_mem _)
    rw [List.getD_eq_getElem?_getD, List.getElem?_eq_getElem hk, Option.getD_some] at e
    omega
  · show ([] : List (Nat × Int)).map Prod.fst = _
    exact (T.encl_start t 0 _ (Nat.le_refl 0)).symm

/-- the result of Run -/
def machRun (ars : List Ar) (regs spills : Int) (cd : List RI) (arr : List (List Int)) (ctx : List Int) (input : Int) (ended : Bool) (fuel : Int) : Except Int PS :=
  runRes ars regs spills cd arr ctx fuel (mres (mkMC ars regs spills cd input ended fuel) ((mkMC ars regs spills cd input ended fuel).init arr ctx))

/-- **RUN** -/
theorem Run_is (arsA codeA qa ca : Option Addr) (arsC codeC cq cc : Nat) (ars : List Ar) (regs spills : Int) (cd : List RI) (arr : List (List Int)) (ctx : List Int) (input : Int) (ended : Bool) (fuel : Int) (w : World)
    (hars : RowB w.heap.size w 2 arsA ars.length fun i j => (ars.getD i default).cell j) (hcd : RowB w.heap.size w 5 codeA cd.length fun i j => (cd.getD i default).cell j)
    (hg : GridR w qa arr) (hctx : RowB w.heap.size w 1 ca ctx.length fun j _ => .int .u32 (ctx.getD j 0))
    (hA : ars.length ≤ 9223372036854775806) (hC : cd.length ≤ 9223372036854775807) (harg : ∀ i ∈ cd, 0 ≤ i.arg ∧ i.arg < 4294967296) (hl : ∀ a ∈ arr, a.length ≤ 9223372036854775806) (ha : ∀ a ∈ arr, u32s a) (hc : u32s ctx) (hi : u32 input) :
    Calls Try.prog 18 #[.agg #[.slice arsA ars.length arsC, .int .i64 regs, .int .i64 spills, .slice codeA cd.length codeC], .agg #[.slice qa arr.length cq, .slice ca ctx.length cc], .agg #[.int .u32 input, .bool ended, .int .i64 fuel]] w
      (ExecPost w (machRun ars regs spills cd arr ctx input ended fuel)) :=
  Run_any arsA codeA qa ca arsC codeC cq cc ars regs spills cd arr ctx input ended fuel w hars hcd hg hctx hA hC harg hl _ (fun h1 h2 h3 => by
    have G := chk_good h1
    obtain ⟨t, R⟩ := good_tree G harg input ended fuel
    exact runs_all R (init_inv G h2 ha hc hi h3 t))

end Go.Proofs.Ytefdnjhhaejgbaa

namespace Go.Proofs.Ytefdnjhhaejgbaa
open Go.RowKit
set_option linter.unusedVariables false

/-- beyond all bounds -/
def BY : Int := 281474976710657

/-- the bound of a tree, on top of n -/
def T.bd : T → Int → Int
  | .nil, n => n
  | .plain i r, n => r.bd (min (n + 1) BY)
  | .ite i a j r, n => r.bd (min (n + 1 + max (a.bd 0) 0) BY)
  | .ite2 i a x b j r, n => r.bd (min (n + 1 + max (a.bd 0) (b.bd 0)) BY)
  | .loop i a j r, n => r.bd (min (if BY / (1 + a.bd 0) < i.arg then BY else n + 1 + i.arg * (1 + a.bd 0)) BY)

theorem T.bd_range (harg : Prop) : ∀ (t : T) (n : Int), (∀ i ∈ t.flat, 0 ≤ i.arg) → 0 ≤ n ∧ n ≤ BY → 0 ≤ t.bd n ∧ t.bd n ≤ BY
  | .nil, n, _, h => h
  | .plain i r, n, hf, h => by
    simp only [bd]
    exact T.bd_range harg r _ (fun x hx => hf x (by simp [flat, hx])) (by unfold BY at *; omega)
  | .ite i a j r, n, hf, h => by
    simp only [bd]
    have ha := T.bd_range harg a 0 (fun x hx => hf x (by simp [flat, hx])) (by unfold BY; omega)
    exact T.bd_range harg r _ (fun x hx => hf x (by simp [flat, hx])) (by unfold BY at *; omega)
  | .ite2 i a x b j r, n, hf, h => by
    simp only [bd]
    have ha := T.bd_range harg a 0 (fun x hx => hf x (by simp [flat, hx])) (by unfold BY; omega)
    have hb := T.bd_range harg b 0 (fun x hx => hf x (by simp [flat, hx])) (by unfold BY; omega)
    exact T.bd_range harg r _ (fun x hx => hf x (by simp [flat, hx])) (by unfold BY at *; omega)
  | .loop i a j r, n, hf, h => by
    simp only [bd]
    have ha := T.bd_range harg a 0 (fun x hx => hf x (by simp [flat, hx])) (by unfold BY; omega)
    have hi := hf i (by simp [flat])
    have hm : 0 ≤ i.arg * (1 + a.bd 0) := Int.mul_nonneg hi (by omega)
    refine T.bd_range harg r _ (fun x hx => hf x (by simp [flat, hx])) ?_
    split <;> (unfold BY at *; omega)

/-- the code and the partners at a place -/
structure BdAt (cd : List RI) (pt : List Nat) (k e : Nat) (t : T) : Prop where
  cd : CdAt cd k t.flat
  pt : ∀ p, k ≤ p → p < k + t.size → pt.getD p 0 = ptFn (t.pt k e) k p

theorem BdAt.plainR {cd : List RI} {pt : List Nat} {k e : Nat} {i : RI} {r : T} (h : BdAt cd pt k e (.plain i r)) : BdAt cd pt (k + 1) e r :=
  ⟨h.cd.tail, fun p h1 h2 => by rw [h.pt p (by omega) (by simp only [T.size]; omega)]; simp only [T.pt]; exact ptFn_cons _ _ _ _ (by omega)⟩
theorem BdAt.iteA {cd : List RI} {pt : List Nat} {k e : Nat} {i j : RI} {a r : T} (h : BdAt cd pt k e (.ite i a j r)) : BdAt cd pt (k + 1) e a ∧ BdAt cd pt (k + a.size + 2) e r ∧ pt.getD k 0 = k + a.size + 1 ∧ cd.getD (k + a.size + 1) default = j := by
  have hc := h.cd
  simp only [T.flat] at hc
  have hcj := hc.tail.right
  rw [a.flat_length] at hcj
  have hal := a.pt_length (k + 1) e
  refine ⟨⟨hc.tail.left, fun p h1 h2 => ?_⟩, ⟨?_, fun p h1 h2 => ?_⟩, ?_, ?_⟩
  · rw [h.pt p (by omega) (by simp only [T.size]; omega)]; simp only [T.pt]; rw [ptFn_cons _ _ _ _ (by omega)]; exact ptFn_left _ _ _ _ (by omega) (by omega)
  · have := hcj.tail; rw [show k + 1 + a.size + 1 = k + a.size + 2 by omega] at this; exact this
  · rw [h.pt p (by omega) (by simp only [T.size]; omega)]; simp only [T.pt]; rw [ptFn_cons _ _ _ _ (by omega), ptFn_right _ _ _ _ (by omega), hal, ptFn_cons _ _ _ _ (by omega), show k + 1 + a.size + 1 = k + a.size + 2 by omega]
  · rw [h.pt k (Nat.le_refl _) (by simp only [T.size]; omega)]; simp only [T.pt]; exact ptFn_head _ _ _
  · have := hcj.head; rw [show k + 1 + a.size = k + a.size + 1 by omega] at this; exact this
theorem BdAt.loopA {cd : List RI} {pt : List Nat} {k e : Nat} {i j : RI} {a r : T} (h : BdAt cd pt k e (.loop i a j r)) : BdAt cd pt (k + 1) (k + a.size + 1) a ∧ BdAt cd pt (k + a.size + 2) e r ∧ pt.getD k 0 = k + a.size + 1 := by
  have hc := h.cd
  simp only [T.flat] at hc
  have hcj := hc.tail.right
  rw [a.flat_length] at hcj
  have hal := a.pt_length (k + 1) (k + a.size + 1)
  refine ⟨⟨hc.tail.left, fun p h1 h2 => ?_⟩, ⟨?_, fun p h1 h2 => ?_⟩, ?_⟩
  · rw [h.pt p (by omega) (by simp only [T.size]; omega)]; simp only [T.pt]; rw [ptFn_cons _ _ _ _ (by omega)]; exact ptFn_left _ _ _ _ (by omega) (by omega)
  · have := hcj.tail; rw [show k + 1 + a.size + 1 = k + a.size + 2 by omega] at this; exact this
  · rw [h.pt p (by omega) (by simp only [T.size]; omega)]; simp only [T.pt]; rw [ptFn_cons _ _ _ _ (by omega), ptFn_right _ _ _ _ (by omega), hal, ptFn_cons _ _ _ _ (by omega), show k + 1 + a.size + 1 = k + a.size + 2 by omega]
  · rw [h.pt k (Nat.le_refl _) (by simp only [T.size]; omega)]; simp only [T.pt]; exact ptFn_head _ _ _
theorem BdAt.ite2A {cd : List RI} {pt : List Nat} {k e : Nat} {i x j : RI} {a b r : T} (h : BdAt cd pt k e (.ite2 i a x b j r)) : BdAt cd pt (k + 1) e a ∧ BdAt cd pt (k + a.size + 2) e b ∧ BdAt cd pt (k + a.size + b.size + 3) e r ∧ pt.getD k 0 = k + a.size + 1 ∧
    pt.getD (k + a.size + 1) 0 = k + a.size + b.size + 2 ∧ cd.getD (k + a.size + 1) default = x := by
  have hc := h.cd
  simp only [T.flat] at hc
  have hcx := hc.tail.right
  rw [a.flat_length, show k + 1 + a.size = k + a.size + 1 by omega] at hcx
  have hcj := hcx.tail.right
  rw [b.flat_length] at hcj
  have hal := a.pt_length (k + 1) e
  have hbl := b.pt_length (k + a.size + 2) e
  refine ⟨⟨hc.tail.left, fun p h1 h2 => ?_⟩, ⟨?_, fun p h1 h2 => ?_⟩, ⟨?_, fun p h1 h2 => ?_⟩, ?_, ?_, hcx.head⟩
  · rw [h.pt p (by omega) (by simp only [T.size]; omega)]; simp only [T.pt]; rw [ptFn_cons _ _ _ _ (by omega)]; exact ptFn_left _ _ _ _ (by omega) (by omega)
  · exact hcx.tail.left
  · rw [h.pt p (by omega) (by simp only [T.size]; omega)]; simp only [T.pt]; rw [ptFn_cons _ _ _ _ (by omega), ptFn_right _ _ _ _ (by omega), hal, ptFn_cons _ _ _ _ (by omega), show k + 1 + a.size + 1 = k + a.size + 2 by omega]; exact ptFn_left _ _ _ _ (by omega) (by omega)
  · have := hcj.tail; rw [show k + a.size + 1 + 1 + b.size + 1 = k + a.size + b.size + 3 by omega] at this; exact this
  · rw [h.pt p (by omega) (by simp only [T.size]; omega)]; simp only [T.pt]
    rw [ptFn_cons _ _ _ _ (by omega), ptFn_right _ _ _ _ (by omega), hal, ptFn_cons _ _ _ _ (by omega), show k + 1 + a.size + 1 = k + a.size + 2 by omega, ptFn_right _ _ _ _ (by omega), hbl, ptFn_cons _ _ _ _ (by omega), show k + a.size + 2 + b.size + 1 = k + a.size + b.size + 3 by omega]
  · rw [h.pt k (Nat.le_refl _) (by simp only [T.size]; omega)]; simp only [T.pt]; exact ptFn_head _ _ _
  · rw [h.pt _ (by omega) (by simp only [T.size]; omega)]; simp only [T.pt]; rw [ptFn_cons _ _ _ _ (by omega), ptFn_right _ _ _ _ (by omega), hal, show k + 1 + a.size = k + a.size + 1 by omega]; exact ptFn_head _ _ _

def BdRel (cd : List RI) (pt : List Nat) (hi : Nat) (res : Int) (w : World) (n i : Value) (wr : World) : Prop :=
  ∃ (k : Nat) (acc : Int) (r : T) (e : Nat) (wi : Bool) (d : Nat), i = .int .i64 (k : Int) ∧ n = .int .i64 acc ∧ k + r.size = hi ∧ BdAt cd pt k e r ∧ r.wf wi d ∧ r.bd acc = res ∧ 0 ≤ acc ∧ acc ≤ BY ∧ Below w.heap.size w wr

theorem flat_arg {cd : List RI} (harg : ∀ i ∈ cd, 0 ≤ i.arg ∧ i.arg < 4294967296) {k : Nat} {t : T} (h : CdAt cd k t.flat) (hk : k + t.size ≤ cd.length) : ∀ i ∈ t.flat, 0 ≤ i.arg := fun i hi => by
  obtain ⟨j, hj, rfl⟩ := List.getElem_of_mem hi
  have e := h j hj
  have hl := t.flat_length
  rw [List.getD_eq_getElem?_getD, List.getD_eq_getElem?_getD, List.getElem?_eq_getElem hj, List.getElem?_eq_getElem (show k + j < cd.length by omega)] at e
  simp only [Option.getD_some] at e
  rw [← e]
  exact (harg _ (List.getElem_mem _)).1

end Go.Proofs.Ytefdnjhhaejgbaa
