/- A part of the proof of MachineFeeds: Re Rf Rg Rh. No condition. -/
import Derived.Test.YtefdnjhhaejgbaaGf26
import Derived.Test.YtefdnjhhaejgbaaGf15
set_option linter.unusedSimpArgs false
set_option linter.unusedVariables false
namespace Go.Proofs.Ytefdnjhhaejgbaa
open Go.RowKit
set_option linter.unusedVariables false
theorem Keep.growOut {B : Nat} {τ : Nat → Nat} {W w1 : World} {o : Obj} {ov : Value} {g mb j : Nat} {v : Value} (hg : (W.alloc o).grownBy w1 ov.ownBlock) (hat : ov.ownBlock = some g ∨ W.heap.size < g) (hB : B ≤ W.heap.size) (hr : ∀ x, ov.ownBlock = some x → τ x = 6 ∧ B ≤ x) (hm : τ mb < 1000) (hmB : B ≤ mb) :
    Keep B τ (fun x => if x = g then 6 else τ x) W (w1.setCell ⟨mb, j, none⟩ v) := by
  have hsz : W.heap.size + 1 ≤ w1.heap.size := by have := hg.size; simpa using this
  refine ⟨Below.setCell ⟨?_, ?_, ?_, ?_, ?_⟩ hmB _, fun k hk ht => ⟨?_, ?_⟩⟩
  · rw [hg.os]; rfl
  · rw [hg.tape]; rfl
  · rw [hg.output]; rfl
  · omega
  · intro k hk
    rw [hg.block k (by simp; omega) (fun e => by have := (hr k e.symm).2; omega)]
    exact Below.heap_alloc _ _ _ (by omega)
  · have hkg : k ≠ g := by
      rintro rfl
      rcases hat with h | h
      · have := (hr k h).1; omega
      · omega
    simp [hkg]
  · rw [Below.heap_setCell _ _ _ _ (fun e => by have e' : k = mb := e; rw [e'] at ht; omega), hg.block k (by simp; omega) (fun e => by have := (hr k e.symm).1; omega)]
    exact Below.heap_alloc _ _ _ hk
set_option maxRecDepth 100000 in
set_option maxHeartbeats 1000000 in
theorem relement_in (B : Nat) (L : Lay) (c : MC) (rp : List Int) (s : PS) (τ : Nat → Nat) (ov : Value) (w : World) (R : RRep B L c rp s 0 τ ov w) (k n : Nat) (hk : k < s.arr.length) (hx : (n : Int) < 4294967296) (hk32 : s.arr.length ≤ 8) (hsz : (s.arr.getD k []).length ≤ 65536) (hin : n < (s.arr.getD k []).length) :
    Calls Try.prog 111 #[.pointer (some ⟨L.mb, 0, none⟩), .int .u32 (k : Int), .int .u32 (n : Int)] w fun e w' => e = .returned (.bool true) ∧ w' = w := by
  obtain ⟨q, qo, hA, hq, hql, hqc⟩ := R.outer k hk
  obtain ⟨m, hm⟩ : ∃ m, (s.arr.getD k []).length = m := ⟨_, rfl⟩
  rw [hm] at hqc hsz hin
  have c5 : w.cell? ⟨L.mb, 5, none⟩ = some (.slice (some ⟨q, qo, none⟩) s.arr.length L.arrC) := by rw [← hA]; exact R.mac.cell 5
  have hlt := R.mac.lt
  have hk' := nat_cast_ltQ hk
  have hx2 : 0 ≤ (n : Int) ∧ (n : Int) < 4294967296 := ⟨by omega, hx⟩
  clear R hA hm hx
  have qi : decide ((m : Int) ≤ (n : Int)) = false := by simp; omega
  have HI := Lib.hid hin
  go_enter Try.func111, Try.ntmps111
  go_wp2
  go_ret
  exact ⟨rfl, rfl⟩
set_option maxRecDepth 100000 in
set_option maxHeartbeats 1000000 in
theorem rplain_34b (B : Nat) (L : Lay) (c : MC) (rp : List Int) (s : PS) (τ : Nat → Nat) (ov : Value) (w : World) (R : RRep B L c rp s 0 τ ov w) (F : Fine c s) (to ra rb arg : Int) (ha : ra < 0 ∨ ra < c.regs) (hbr : rb < 0 ∨ rb < c.regs) (harg : 0 ≤ arg ∧ arg < 4294967296) (hlen : ¬ s.out.length < 65536) :
    Calls Try.prog 92 #[.pointer (some ⟨L.mb, 0, none⟩), .agg #[.int .i64 34, .int .i64 to, .int .i64 ra, .int .i64 rb, .int .u32 arg]] w fun e w' => e = .returned (.tuple #[]) ∧ RSt B L c rp τ w (effPost c s ⟨34, to, ra, rb, arg⟩).1 (effPost c s ⟨34, to, ra, rb, arg⟩).2 w' := by
  have hreg := F.regs
  obtain ⟨xa, hxa⟩ : ∃ xa, s.get ra = xa := ⟨_, rfl⟩
  obtain ⟨xb, hxb⟩ : ∃ xb, s.get rb = xb := ⟨_, rfl⟩
  have ua := F.get ra
  have ub := F.get rb
  rw [hxa] at ua
  rw [hxb] at ub
  have HX := Lib.hid (And.intro hxa hxb)
  have HF := Lib.hid F
  have HB := Lib.hid R.hB
  obtain ⟨oa, oc, rfl⟩ : ∃ oa oc, ov = .slice oa s.out.length oc := by
    rcases R.oown.2 with ⟨h1, h2⟩ | ⟨g, cc, cur, h1, _⟩
    · exact ⟨none, 0, by rw [h1, h2]⟩
    · exact ⟨_, cc, h1⟩
  have HE := Lib.hid (show effPost c s ⟨34, to, ra, rb, arg⟩ = (s, 5) by simp only [effPost, effect, reduceIte, Int.reduceEq]; rw [if_neg hlen])
  have ql : decide ((65536 : Int) ≤ (s.out.length : Int)) = true := by simp; omega
  have HRD := Lib.hid (fun W (R1 : RRep B L c rp s 0 τ (.slice oa s.out.length oc) W) (r : Int) (hr : r < 0 ∨ r < c.regs) => rread_any B L c rp s 0 τ (.slice oa s.out.length oc) W R1 r (by omega))
  have HR := Lib.hid R
  clear hxa hxb F R
  go_enter Try.func92, Try.ntmps92
  go_upto_region 1 with (fail)
  refine wp_gen (fun W => PlW B L c rp s τ (.slice oa s.out.length oc) w ⟨34, to, ra, rb, arg⟩ W) ?_ ?_
  · have hb : Below w.heap.size w (w.alloc (.cells #[.int .i64 34, .int .i64 to, .int .i64 ra, .int .i64 rb, .int .u32 arg] 61)) := (Below.refl _ _).alloc (Nat.le_refl _) _
    exact ⟨hb, heap_new1 _ _, HR.out.below hb⟩
  intro W P
  have b2 : W.cell? ⟨w.heap.size, 2, none⟩ = some (.int .i64 ra) := P.box.cell 2
  have b3 : W.cell? ⟨w.heap.size, 3, none⟩ = some (.int .i64 rb) := P.box.cell 3
  have lb : w.heap.size < W.heap.size := P.box.lt
  have HP := Lib.hid P
  clear P HR
  go_wp2_with fail
  refine wp_region_keeps [0, 1, 4, 5] [(2, 0), (2, 1), (2, 4), (2, 5), (1, 2), (1, 6), (0, 3), (0, 7), (0, 8), (0, 9)] (by kernel_rfl) (by kernel_rfl) (fun c a d v w h => by cases d <;> exact h) ?_
  simp only [getPlan, List.filterMap_cons, List.filterMap_nil, List.getElem?_toArray, List.getElem?_cons_succ, List.getElem?_cons_zero, Option.map_some]
  repeat ((first | refine wpPlanK_pure (fun K hK => ?_) | refine wpPlanK_float (fun K hK => ?_)); go_simp; refine hK _ ?_; clear hK K)
  clear b2 b3
  refine wpPlanK_keep ?_
  go_wp2_with fail
  refine (HRD.out W.drew HP.out.rep.drew ra ha).mono ?_
  rintro e W' ⟨rfl, rfl⟩
  go_wp2_with fail
  refine ⟨grew_below (Below.refl _ _).drew, ?_⟩
  refine wpPlanK_keep ?_
  go_wp2_with fail
  refine (HRD.out W.drew HP.out.rep.drew rb hbr).mono ?_
  rintro e W' ⟨rfl, rfl⟩
  go_wp2_with fail
  refine ⟨grew_below (Below.refl _ _).drew, ?_⟩
  refine wpPlanK_keep ?_
  go_wp2_with fail
  refine ⟨grew_below (Below.refl _ _).drew, ?_⟩
  refine wpPlanK_keep ?_
  go_wp2_with fail
  refine ⟨grew_below (Below.refl _ _).drew, ?_⟩
  refine wpPlanK_nil ?_
  rw [HX.out.1, HX.out.2]
  go_upto_region 2 with (fail)
  refine wp_gen (fun V => PlW B L c rp s τ (.slice oa s.out.length oc) w ⟨34, to, ra, rb, arg⟩ V) ⟨HP.out.bel.drew, HP.out.box.drew, HP.out.rep.drew⟩ ?_
  clear HP lb W
  intro W P
  have b0 : W.cell? ⟨w.heap.size, 0, none⟩ = some (.int .i64 34) := P.box.cell 0
  have b1 : W.cell? ⟨w.heap.size, 1, none⟩ = some (.int .i64 to) := P.box.cell 1
  have b4 : W.cell? ⟨w.heap.size, 4, none⟩ = some (.int .u32 arg) := P.box.cell 4
  have lb : w.heap.size < W.heap.size := P.box.lt
  have lm : L.mb < W.heap.size := P.rep.mac.lt
  have lr : L.rb < W.heap.size := P.rep.reg.lt
  have c10 : W.cell? ⟨L.mb, 10, none⟩ = some (.slice (some ⟨L.rb, 0, none⟩) s.regs.length s.regs.length) := P.rep.mac.cell 10
  have c12 : W.cell? ⟨L.mb, 12, none⟩ = some (.slice oa s.out.length oc) := P.rep.mac.cell 12
  have c14 : W.cell? ⟨L.mb, 14, none⟩ = some (.int .i64 0) := P.rep.mac.cell 14
  have f14 := P.rep.mac.frozen 14
  have HP := Lib.hid P
  clear P
  go_wp2
  refine bodyPost_ret (results_none rfl _ _ _) rfl ?_
  exact ⟨rfl, by rw [HE.out]; exact HP.out.done HB.out (HP.out.rep.setErr 5) (Keep.set HP.out.rep.bm (by rw [HP.out.rep.tm]; omega))⟩
set_option maxRecDepth 100000 in
set_option maxHeartbeats 1000000 in
theorem rplain_34a (B : Nat) (L : Lay) (c : MC) (rp : List Int) (s : PS) (τ : Nat → Nat) (ov : Value) (w : World) (R : RRep B L c rp s 0 τ ov w) (F : Fine c s) (to ra rb arg : Int) (ha : ra < 0 ∨ ra < c.regs) (hbr : rb < 0 ∨ rb < c.regs) (harg : 0 ≤ arg ∧ arg < 4294967296) (hlen : s.out.length < 65536) :
    Calls Try.prog 92 #[.pointer (some ⟨L.mb, 0, none⟩), .agg #[.int .i64 34, .int .i64 to, .int .i64 ra, .int .i64 rb, .int .u32 arg]] w fun e w' => e = .returned (.tuple #[]) ∧ RSt B L c rp τ w (effPost c s ⟨34, to, ra, rb, arg⟩).1 (effPost c s ⟨34, to, ra, rb, arg⟩).2 w' := by
  have hreg := F.regs
  obtain ⟨xa, hxa⟩ : ∃ xa, s.get ra = xa := ⟨_, rfl⟩
  obtain ⟨xb, hxb⟩ : ∃ xb, s.get rb = xb := ⟨_, rfl⟩
  have ua := F.get ra
  have ub := F.get rb
  rw [hxa] at ua
  rw [hxb] at ub
  have HX := Lib.hid (And.intro hxa hxb)
  have HF := Lib.hid F
  have HB := Lib.hid R.hB
  obtain ⟨oa, oc, rfl⟩ : ∃ oa oc, ov = .slice oa s.out.length oc := by
    rcases R.oown.2 with ⟨h1, h2⟩ | ⟨g, cc, cur, h1, _⟩
    · exact ⟨none, 0, by rw [h1, h2]⟩
    · exact ⟨_, cc, h1⟩
  have HE := Lib.hid (show effPost c s ⟨34, to, ra, rb, arg⟩ = ({ s with out := s.out ++ [xa % 256] }, 0) by simp only [effPost, effect, reduceIte, Int.reduceEq]; rw [if_pos hlen, hxa])
  have ql : decide ((65536 : Int) ≤ (s.out.length : Int)) = false := by simp; omega
  have HRD := Lib.hid (fun W (R1 : RRep B L c rp s 0 τ (.slice oa s.out.length oc) W) (r : Int) (hr : r < 0 ∨ r < c.regs) => rread_any B L c rp s 0 τ (.slice oa s.out.length oc) W R1 r (by omega))
  have HR := Lib.hid R
  clear hxa hxb F R
  go_enter Try.func92, Try.ntmps92
  go_upto_region 1 with (fail)
  refine wp_gen (fun W => PlW B L c rp s τ (.slice oa s.out.length oc) w ⟨34, to, ra, rb, arg⟩ W) ?_ ?_
  · have hb : Below w.heap.size w (w.alloc (.cells #[.int .i64 34, .int .i64 to, .int .i64 ra, .int .i64 rb, .int .u32 arg] 61)) := (Below.refl _ _).alloc (Nat.le_refl _) _
    exact ⟨hb, heap_new1 _ _, HR.out.below hb⟩
  intro W P
  have b2 : W.cell? ⟨w.heap.size, 2, none⟩ = some (.int .i64 ra) := P.box.cell 2
  have b3 : W.cell? ⟨w.heap.size, 3, none⟩ = some (.int .i64 rb) := P.box.cell 3
  have lb : w.heap.size < W.heap.size := P.box.lt
  have HP := Lib.hid P
  clear P HR
  go_wp2_with fail
  refine wp_region_keeps [0, 1, 4, 5] [(2, 0), (2, 1), (2, 4), (2, 5), (1, 2), (1, 6), (0, 3), (0, 7), (0, 8), (0, 9)] (by kernel_rfl) (by kernel_rfl) (fun c a d v w h => by cases d <;> exact h) ?_
  simp only [getPlan, List.filterMap_cons, List.filterMap_nil, List.getElem?_toArray, List.getElem?_cons_succ, List.getElem?_cons_zero, Option.map_some]
  repeat ((first | refine wpPlanK_pure (fun K hK => ?_) | refine wpPlanK_float (fun K hK => ?_)); go_simp; refine hK _ ?_; clear hK K)
  clear b2 b3
  refine wpPlanK_keep ?_
  go_wp2_with fail
  refine (HRD.out W.drew HP.out.rep.drew ra ha).mono ?_
  rintro e W' ⟨rfl, rfl⟩
  go_wp2_with fail
  refine ⟨grew_below (Below.refl _ _).drew, ?_⟩
  refine wpPlanK_keep ?_
  go_wp2_with fail
  refine (HRD.out W.drew HP.out.rep.drew rb hbr).mono ?_
  rintro e W' ⟨rfl, rfl⟩
  go_wp2_with fail
  refine ⟨grew_below (Below.refl _ _).drew, ?_⟩
  refine wpPlanK_keep ?_
  go_wp2_with fail
  refine ⟨grew_below (Below.refl _ _).drew, ?_⟩
  refine wpPlanK_keep ?_
  go_wp2_with fail
  refine ⟨grew_below (Below.refl _ _).drew, ?_⟩
  refine wpPlanK_nil ?_
  rw [HX.out.1, HX.out.2]
  go_upto_region 2 with (fail)
  refine wp_gen (fun V => PlW B L c rp s τ (.slice oa s.out.length oc) w ⟨34, to, ra, rb, arg⟩ V) ⟨HP.out.bel.drew, HP.out.box.drew, HP.out.rep.drew⟩ ?_
  clear HP lb W
  intro W P
  have b0 : W.cell? ⟨w.heap.size, 0, none⟩ = some (.int .i64 34) := P.box.cell 0
  have b1 : W.cell? ⟨w.heap.size, 1, none⟩ = some (.int .i64 to) := P.box.cell 1
  have b4 : W.cell? ⟨w.heap.size, 4, none⟩ = some (.int .u32 arg) := P.box.cell 4
  have lb : w.heap.size < W.heap.size := P.box.lt
  have lm : L.mb < W.heap.size := P.rep.mac.lt
  have lr : L.rb < W.heap.size := P.rep.reg.lt
  have c10 : W.cell? ⟨L.mb, 10, none⟩ = some (.slice (some ⟨L.rb, 0, none⟩) s.regs.length s.regs.length) := P.rep.mac.cell 10
  have c12 : W.cell? ⟨L.mb, 12, none⟩ = some (.slice oa s.out.length oc) := P.rep.mac.cell 12
  have HP := Lib.hid P
  clear P
  have hBW : B ≤ W.heap.size := HP.out.rep.hB
  go_wp2_with (at_builtin; refine wpList_app1 Try.elU8 rfl _ _ rfl B (.slice oa s.out.length oc) s.out.length _ rfl (HP.out.rep.oown.alloc _) W.heap.size [.int .u8 (xa % 256)] (0, 0) rfl (heap_new1 W _) rfl (by simp [Value.oneCell']) (by omega) (by simp; omega) ?_)
  intro g cc w1 hown hg hat hlt
  have hat2 : (Value.slice oa s.out.length oc).ownBlock = some g ∨ (W.alloc (.cells #[.int .u8 (xa % 256)] 5)).heap.size ≤ g := by
    rcases hat with h | h
    · exact .inl h
    · right; simp at h ⊢; omega
  have hat3 : (Value.slice oa s.out.length oc).ownBlock = some g ∨ W.heap.size < g := by
    rcases hat2 with h | h
    · exact .inl h
    · right; simp at h; omega
  have RA := HP.out.rep.below (w' := W.alloc (.cells #[.int .u8 (xa % 256)] 5)) ((Below.refl _ _).alloc (Nat.le_refl _) _)
  have RG := RA.growOut (xa % 256) hown hg hat2
  have KG := Keep.growOut (B := B) (τ := τ) (mb := L.mb) (j := 12) (v := .slice (some ⟨g, 0, none⟩) (s.out.length + 1) cc) hg hat3 hBW (fun x hx => ⟨HP.out.rep.to x hx, (HP.out.rep.oown.lt x hx).1⟩) (by rw [HP.out.rep.tm]; omega) HP.out.rep.bm
  have hmac := RA.mac.grown hg (fun e => by have := HP.out.rep.to _ e.symm; have := HP.out.rep.tm; omega)
  have c12 : w1.cell? ⟨L.mb, 12, none⟩ = some (.slice oa s.out.length oc) := hmac.cell 12
  have f12 := hmac.frozen 12
  have HRG := Lib.hid (And.intro RG KG)
  clear RG KG RA hown hg hat hat2 hat3 hlt hmac
  go_wp2
  refine bodyPost_end (results_none rfl _ _ _) rfl ?_
  exact ⟨rfl, by rw [HE.out]; exact HP.out.done HB.out HRG.out.1 HRG.out.2⟩
set_option maxRecDepth 100000 in
set_option maxHeartbeats 1000000 in
theorem rplain_3a (B : Nat) (L : Lay) (c : MC) (rp : List Int) (s : PS) (τ : Nat → Nat) (ov : Value) (w : World) (R : RRep B L c rp s 0 τ ov w) (F : Fine c s) (to ra rb arg : Int) (ha : ra < 0 ∨ ra < c.regs) (hbr : rb < 0 ∨ rb < c.regs) (harg : 0 ≤ arg ∧ arg < 4294967296) (hto : 0 ≤ to ∧ to < c.regs) (hna : arg < c.ars.length) (hin : (s.get ra).toNat < (s.arr.getD arg.toNat []).length) :
    Calls Try.prog 92 #[.pointer (some ⟨L.mb, 0, none⟩), .agg #[.int .i64 3, .int .i64 to, .int .i64 ra, .int .i64 rb, .int .u32 arg]] w fun e w' => e = .returned (.tuple #[]) ∧ RSt B L c rp τ w (effPost c s ⟨3, to, ra, rb, arg⟩).1 (effPost c s ⟨3, to, ra, rb, arg⟩).2 w' := by
  have hreg := F.regs
  obtain ⟨xa, hxa⟩ : ∃ xa, s.get ra = xa := ⟨_, rfl⟩
  obtain ⟨xb, hxb⟩ : ∃ xb, s.get rb = xb := ⟨_, rfl⟩
  have ua := F.get ra
  have ub := F.get rb
  rw [hxa] at ua
  rw [hxb] at ub
  have HX := Lib.hid (And.intro hxa hxb)
  have HRD := Lib.hid (fun W (R1 : RRep B L c rp s 0 τ ov W) (r : Int) (hr : r < 0 ∨ r < c.regs) => rread_any B L c rp s 0 τ ov W R1 r (by omega))
  have HF := Lib.hid F
  have HB := Lib.hid R.hB
  obtain ⟨t, rfl⟩ : ∃ t : Nat, to = (t : Int) := ⟨to.toNat, by omega⟩
  have ht : t < s.regs.length := by omega
  have ht' := nat_cast_ltQ ht
  obtain ⟨n, rfl⟩ : ∃ n : Nat, arg = (n : Int) := ⟨arg.toNat, by omega⟩
  have harr := F.arr
  have hamx := F.amax
  have hn : n < s.arr.length := by omega
  have hn' := nat_cast_ltQ hn
  have hasz : (s.arr.getD n []).length ≤ 65536 := by
    rw [List.getD_eq_getElem?_getD, List.getElem?_eq_getElem hn]
    exact F.asz _ (List.getElem_mem hn)
  obtain ⟨v, rfl⟩ : ∃ v : Nat, xa = (v : Int) := ⟨xa.toNat, by omega⟩
  rw [hxa, Int.toNat_natCast, Int.toNat_natCast] at hin
  obtain ⟨z, hz⟩ : ∃ z, (s.arr.getD n []).getD v 0 = z := ⟨_, rfl⟩
  have HE := Lib.hid (show effPost c s ⟨3, (t : Int), ra, rb, (n : Int)⟩ = ({ s with regs := s.regs.set t z }, 0) by simp only [effPost, effect, reduceIte, Int.reduceEq, hxa, Int.toNat_natCast]; rw [if_pos hin, hz]; simp [PS.put])
  have HZ := Lib.hid hz
  clear hz
  have HR := Lib.hid R
  clear hxa hxb F R
  go_enter Try.func92, Try.ntmps92
  go_upto_region 1 with (fail)
  refine wp_gen (fun W => PlW B L c rp s τ ov w ⟨3, (t : Int), ra, rb, (n : Int)⟩ W) ?_ ?_
  · have hb : Below w.heap.size w (w.alloc (.cells #[.int .i64 3, .int .i64 (t : Int), .int .i64 ra, .int .i64 rb, .int .u32 (n : Int)] 61)) := (Below.refl _ _).alloc (Nat.le_refl _) _
    exact ⟨hb, heap_new1 _ _, HR.out.below hb⟩
  intro W P
  have b2 : W.cell? ⟨w.heap.size, 2, none⟩ = some (.int .i64 ra) := P.box.cell 2
  have b3 : W.cell? ⟨w.heap.size, 3, none⟩ = some (.int .i64 rb) := P.box.cell 3
  have lb : w.heap.size < W.heap.size := P.box.lt
  have HP := Lib.hid P
  clear P HR
  go_wp2_with fail
  refine wp_region_keeps [0, 1, 4, 5] [(2, 0), (2, 1), (2, 4), (2, 5), (1, 2), (1, 6), (0, 3), (0, 7), (0, 8), (0, 9)] (by kernel_rfl) (by kernel_rfl) (fun c a d v w h => by cases d <;> exact h) ?_
  simp only [getPlan, List.filterMap_cons, List.filterMap_nil, List.getElem?_toArray, List.getElem?_cons_succ, List.getElem?_cons_zero, Option.map_some]
  repeat ((first | refine wpPlanK_pure (fun K hK => ?_) | refine wpPlanK_float (fun K hK => ?_)); go_simp; refine hK _ ?_; clear hK K)
  clear b2 b3
  refine wpPlanK_keep ?_
  go_wp2_with fail
  refine (HRD.out W.drew HP.out.rep.drew ra ha).mono ?_
  rintro e W' ⟨rfl, rfl⟩
  go_wp2_with fail
  refine ⟨grew_below (Below.refl _ _).drew, ?_⟩
  refine wpPlanK_keep ?_
  go_wp2_with fail
  refine (HRD.out W.drew HP.out.rep.drew rb hbr).mono ?_
  rintro e W' ⟨rfl, rfl⟩
  go_wp2_with fail
  refine ⟨grew_below (Below.refl _ _).drew, ?_⟩
  refine wpPlanK_keep ?_
  go_wp2_with fail
  refine ⟨grew_below (Below.refl _ _).drew, ?_⟩
  refine wpPlanK_keep ?_
  go_wp2_with fail
  refine ⟨grew_below (Below.refl _ _).drew, ?_⟩
  refine wpPlanK_nil ?_
  rw [HX.out.1, HX.out.2]
  go_upto_region 2 with (fail)
  refine wp_gen (fun V => PlW B L c rp s τ ov w ⟨3, (t : Int), ra, rb, (n : Int)⟩ V) ⟨HP.out.bel.drew, HP.out.box.drew, HP.out.rep.drew⟩ ?_
  clear HP lb W
  intro W P
  have b0 : W.cell? ⟨w.heap.size, 0, none⟩ = some (.int .i64 3) := P.box.cell 0
  have b1 : W.cell? ⟨w.heap.size, 1, none⟩ = some (.int .i64 (t : Int)) := P.box.cell 1
  have b4 : W.cell? ⟨w.heap.size, 4, none⟩ = some (.int .u32 (n : Int)) := P.box.cell 4
  have lb : w.heap.size < W.heap.size := P.box.lt
  have lm : L.mb < W.heap.size := P.rep.mac.lt
  have lr : L.rb < W.heap.size := P.rep.reg.lt
  have c10 : W.cell? ⟨L.mb, 10, none⟩ = some (.slice (some ⟨L.rb, 0, none⟩) s.regs.length s.regs.length) := P.rep.mac.cell 10
  obtain ⟨q, qo, hA, hq, hql, hqc⟩ := P.rep.outer n hn
  obtain ⟨tl, htl⟩ := P.rep.arr n hn
  have c5 : W.cell? ⟨L.mb, 5, none⟩ = some (.slice (some ⟨q, qo, none⟩) s.arr.length L.arrC) := by rw [← hA]; exact P.rep.mac.cell 5
  have la : L.ab n < W.heap.size := htl.lt
  have cv : W.cell? ⟨L.ab n, v, none⟩ = some (.int .u32 z) := by rw [htl.cell, ints_get_app hin, HZ.out]
  have hv' := nat_cast_ltQ hin
  have HEL := Lib.hid (relement_in B L c rp s τ ov W P.rep n v hn (by omega) (by omega) hasz hin)
  have ct : W.cell? ⟨L.rb, t, none⟩ = some (.int .u32 (s.regs.getD t 0)) := by rw [P.rep.reg.cell, ints_get ht]
  have ft := P.rep.reg.frozen t
  generalize s.regs.getD t 0 = y at ct
  have HP := Lib.hid P
  clear P
  clear hA htl hq
  generalize (s.arr.getD n []).length = ml at *
  go_wp2_with fail
  refine HEL.out.mono ?_
  rintro e W' ⟨rfl, rfl⟩
  go_wp2_with fail
  refine wp_region_grew [3, 5, 10, 12, 14, 17] [0, 1, 2, 4, 6, 7, 8, 9, 11, 15, 13, 16, 18] [(2, 0), (2, 1), (2, 2), (2, 4), (2, 6), (2, 7), (2, 8), (2, 9), (2, 11), (2, 15), (1, 3), (1, 5), (1, 10), (1, 12), (2, 13), (1, 14), (2, 16), (1, 17), (2, 18), (0, 19)] (by kernel_rfl) (by kernel_rfl) (fun c a d v w h => by cases d <;> exact h) ?_
  simp only [getPlan, List.filterMap_cons, List.filterMap_nil, List.getElem?_toArray, List.getElem?_cons_succ, List.getElem?_cons_zero, Option.map_some]
  repeat ((first | refine wpPlan_pure (fun K hK => ?_) | refine wpPlan_float (fun K hK => ?_)); go_simp; refine hK _ ?_; clear hK K)
  refine wpPlan_tail (by kernel_rfl) ?_
  simp only [List.map_cons, List.map_nil]
  go_wp2
  refine bodyPost_end (results_none rfl _ _ _) rfl ?_
  exact ⟨rfl, by rw [HE.out]; exact HP.out.done HB.out (HP.out.rep.drew.reg' ht _) (Keep.drew.trans (Keep.set HP.out.rep.br (by rw [HP.out.rep.tr]; omega)))⟩
set_option maxRecDepth 100000 in
set_option maxHeartbeats 1000000 in
theorem rplain_3b (B : Nat) (L : Lay) (c : MC) (rp : List Int) (s : PS) (τ : Nat → Nat) (ov : Value) (w : World) (R : RRep B L c rp s 0 τ ov w) (F : Fine c s) (to ra rb arg : Int) (ha : ra < 0 ∨ ra < c.regs) (hbr : rb < 0 ∨ rb < c.regs) (harg : 0 ≤ arg ∧ arg < 4294967296) (hto : 0 ≤ to ∧ to < c.regs) (hna : arg < c.ars.length) (hin : ¬ (s.get ra).toNat < (s.arr.getD arg.toNat []).length) :
    Calls Try.prog 92 #[.pointer (some ⟨L.mb, 0, none⟩), .agg #[.int .i64 3, .int .i64 to, .int .i64 ra, .int .i64 rb, .int .u32 arg]] w fun e w' => e = .returned (.tuple #[]) ∧ RSt B L c rp τ w (effPost c s ⟨3, to, ra, rb, arg⟩).1 (effPost c s ⟨3, to, ra, rb, arg⟩).2 w' := by
  have hreg := F.regs
  obtain ⟨xa, hxa⟩ : ∃ xa, s.get ra = xa := ⟨_, rfl⟩
  obtain ⟨xb, hxb⟩ : ∃ xb, s.get rb = xb := ⟨_, rfl⟩
  have ua := F.get ra
  have ub := F.get rb
  rw [hxa] at ua
  rw [hxb] at ub
  have HX := Lib.hid (And.intro hxa hxb)
  have HRD := Lib.hid (fun W (R1 : RRep B L c rp s 0 τ ov W) (r : Int) (hr : r < 0 ∨ r < c.regs) => rread_any B L c rp s 0 τ ov W R1 r (by omega))
  have HF := Lib.hid F
  have HB := Lib.hid R.hB
  obtain ⟨n, rfl⟩ : ∃ n : Nat, arg = (n : Int) := ⟨arg.toNat, by omega⟩
  have harr := F.arr
  have hamx := F.amax
  have hn : n < s.arr.length := by omega
  have hn' := nat_cast_ltQ hn
  have hasz : (s.arr.getD n []).length ≤ 65536 := by
    rw [List.getD_eq_getElem?_getD, List.getElem?_eq_getElem hn]
    exact F.asz _ (List.getElem_mem hn)
  obtain ⟨v, rfl⟩ : ∃ v : Nat, xa = (v : Int) := ⟨xa.toNat, by omega⟩
  rw [hxa, Int.toNat_natCast, Int.toNat_natCast] at hin
  have HE := Lib.hid (show effPost c s ⟨3, to, ra, rb, (n : Int)⟩ = (s, 16) by simp only [effPost, effect, reduceIte, Int.reduceEq, hxa, Int.toNat_natCast]; rw [if_neg hin])
  have HR := Lib.hid R
  clear hxa hxb F R
  go_enter Try.func92, Try.ntmps92
  go_upto_region 1 with (fail)
  refine wp_gen (fun W => PlW B L c rp s τ ov w ⟨3, to, ra, rb, (n : Int)⟩ W) ?_ ?_
  · have hb : Below w.heap.size w (w.alloc (.cells #[.int .i64 3, .int .i64 to, .int .i64 ra, .int .i64 rb, .int .u32 (n : Int)] 61)) := (Below.refl _ _).alloc (Nat.le_refl _) _
    exact ⟨hb, heap_new1 _ _, HR.out.below hb⟩
  intro W P
  have b2 : W.cell? ⟨w.heap.size, 2, none⟩ = some (.int .i64 ra) := P.box.cell 2
  have b3 : W.cell? ⟨w.heap.size, 3, none⟩ = some (.int .i64 rb) := P.box.cell 3
  have lb : w.heap.size < W.heap.size := P.box.lt
  have HP := Lib.hid P
  clear P HR
  go_wp2_with fail
  refine wp_region_keeps [0, 1, 4, 5] [(2, 0), (2, 1), (2, 4), (2, 5), (1, 2), (1, 6), (0, 3), (0, 7), (0, 8), (0, 9)] (by kernel_rfl) (by kernel_rfl) (fun c a d v w h => by cases d <;> exact h) ?_
  simp only [getPlan, List.filterMap_cons, List.filterMap_nil, List.getElem?_toArray, List.getElem?_cons_succ, List.getElem?_cons_zero, Option.map_some]
  repeat ((first | refine wpPlanK_pure (fun K hK => ?_) | refine wpPlanK_float (fun K hK => ?_)); go_simp; refine hK _ ?_; clear hK K)
  clear b2 b3
  refine wpPlanK_keep ?_
  go_wp2_with fail
  refine (HRD.out W.drew HP.out.rep.drew ra ha).mono ?_
  rintro e W' ⟨rfl, rfl⟩
  go_wp2_with fail
  refine ⟨grew_below (Below.refl _ _).drew, ?_⟩
  refine wpPlanK_keep ?_
  go_wp2_with fail
  refine (HRD.out W.drew HP.out.rep.drew rb hbr).mono ?_
  rintro e W' ⟨rfl, rfl⟩
  go_wp2_with fail
  refine ⟨grew_below (Below.refl _ _).drew, ?_⟩
  refine wpPlanK_keep ?_
  go_wp2_with fail
  refine ⟨grew_below (Below.refl _ _).drew, ?_⟩
  refine wpPlanK_keep ?_
  go_wp2_with fail
  refine ⟨grew_below (Below.refl _ _).drew, ?_⟩
  refine wpPlanK_nil ?_
  rw [HX.out.1, HX.out.2]
  go_upto_region 2 with (fail)
  refine wp_gen (fun V => PlW B L c rp s τ ov w ⟨3, to, ra, rb, (n : Int)⟩ V) ⟨HP.out.bel.drew, HP.out.box.drew, HP.out.rep.drew⟩ ?_
  clear HP lb W
  intro W P
  have b0 : W.cell? ⟨w.heap.size, 0, none⟩ = some (.int .i64 3) := P.box.cell 0
  have b1 : W.cell? ⟨w.heap.size, 1, none⟩ = some (.int .i64 to) := P.box.cell 1
  have b4 : W.cell? ⟨w.heap.size, 4, none⟩ = some (.int .u32 (n : Int)) := P.box.cell 4
  have lb : w.heap.size < W.heap.size := P.box.lt
  have lm : L.mb < W.heap.size := P.rep.mac.lt
  have lr : L.rb < W.heap.size := P.rep.reg.lt
  have c10 : W.cell? ⟨L.mb, 10, none⟩ = some (.slice (some ⟨L.rb, 0, none⟩) s.regs.length s.regs.length) := P.rep.mac.cell 10
  have hel := relement_any B L c rp s τ ov W P.rep n (v : Int) hn ⟨by omega, by omega⟩ (by omega) hasz
  rw [Int.toNat_natCast, if_neg hin, decide_eq_false hin] at hel
  have HEL := Lib.hid hel
  have HP := Lib.hid P
  clear P
  clear hel
  go_wp2_with fail
  refine HEL.out.mono ?_
  rintro e W' ⟨rfl, τ', ov', R', K'⟩
  have HR' := Lib.hid (And.intro R' K')
  clear R' K'
  go_wp2
  refine bodyPost_end (results_none rfl _ _ _) rfl ?_
  exact ⟨rfl, by rw [HE.out]; exact HP.out.done HB.out HR'.out.1 HR'.out.2⟩
end Go.Proofs.Ytefdnjhhaejgbaa

namespace Go.Proofs.Ytefdnjhhaejgbaa
open Go.RowKit
set_option linter.unusedVariables false
set_option maxRecDepth 100000 in
set_option maxHeartbeats 1000000 in
theorem rplain_4w (B : Nat) (L : Lay) (c : MC) (rp : List Int) (s : PS) (τ : Nat → Nat) (ov : Value) (w : World) (R : RRep B L c rp s 0 τ ov w) (F : Fine c s) (to ra rb arg : Int) (ha : ra < 0 ∨ ra < c.regs) (hbr : rb < 0 ∨ rb < c.regs) (harg : 0 ≤ arg ∧ arg < 4294967296) (hna : arg < c.ars.length) (hword : (c.ars.getD arg.toNat default).word = true) (hin : (s.get ra).toNat < (s.arr.getD arg.toNat []).length) :
    Calls Try.prog 92 #[.pointer (some ⟨L.mb, 0, none⟩), .agg #[.int .i64 4, .int .i64 to, .int .i64 ra, .int .i64 rb, .int .u32 arg]] w fun e w' => e = .returned (.tuple #[]) ∧ RSt B L c rp τ w (effPost c s ⟨4, to, ra, rb, arg⟩).1 (effPost c s ⟨4, to, ra, rb, arg⟩).2 w' := by
  have hreg := F.regs
  obtain ⟨xa, hxa⟩ : ∃ xa, s.get ra = xa := ⟨_, rfl⟩
  obtain ⟨xb, hxb⟩ : ∃ xb, s.get rb = xb := ⟨_, rfl⟩
  have ua := F.get ra
  have ub := F.get rb
  rw [hxa] at ua
  rw [hxb] at ub
  have HX := Lib.hid (And.intro hxa hxb)
  have HRD := Lib.hid (fun W (R1 : RRep B L c rp s 0 τ ov W) (r : Int) (hr : r < 0 ∨ r < c.regs) => rread_any B L c rp s 0 τ ov W R1 r (by omega))
  have HF := Lib.hid F
  have HB := Lib.hid R.hB
  obtain ⟨n, rfl⟩ : ∃ n : Nat, arg = (n : Int) := ⟨arg.toNat, by omega⟩
  have harr := F.arr
  have hamx := F.amax
  have hn : n < s.arr.length := by omega
  have hn' := nat_cast_ltQ hn
  have hasz : (s.arr.getD n []).length ≤ 65536 := by
    rw [List.getD_eq_getElem?_getD, List.getElem?_eq_getElem hn]
    exact F.asz _ (List.getElem_mem hn)
  obtain ⟨v, rfl⟩ : ∃ v : Nat, xa = (v : Int) := ⟨xa.toNat, by omega⟩
  rw [hxa, Int.toNat_natCast, Int.toNat_natCast] at hin
  rw [Int.toNat_natCast] at hword
  have HE := Lib.hid (show effPost c s ⟨4, to, ra, rb, (n : Int)⟩ = ({ s with arr := s.arr.set n ((s.arr.getD n []).set v (xb)) }, 0) by simp only [effPost, effect, reduceIte, Int.reduceEq, hxa, hxb, Int.toNat_natCast]; rw [if_pos hin, hword]; simp)
  have hac : n < c.ars.length := by omega
  have hac' := nat_cast_ltQ hac
  have HR := Lib.hid R
  clear hxa hxb F R
  go_enter Try.func92, Try.ntmps92
  go_upto_region 1 with (fail)
  refine wp_gen (fun W => PlW B L c rp s τ ov w ⟨4, to, ra, rb, (n : Int)⟩ W) ?_ ?_
  · have hb : Below w.heap.size w (w.alloc (.cells #[.int .i64 4, .int .i64 to, .int .i64 ra, .int .i64 rb, .int .u32 (n : Int)] 61)) := (Below.refl _ _).alloc (Nat.le_refl _) _
    exact ⟨hb, heap_new1 _ _, HR.out.below hb⟩
  intro W P
  have b2 : W.cell? ⟨w.heap.size, 2, none⟩ = some (.int .i64 ra) := P.box.cell 2
  have b3 : W.cell? ⟨w.heap.size, 3, none⟩ = some (.int .i64 rb) := P.box.cell 3
  have lb : w.heap.size < W.heap.size := P.box.lt
  have HP := Lib.hid P
  clear P HR
  go_wp2_with fail
  refine wp_region_keeps [0, 1, 4, 5] [(2, 0), (2, 1), (2, 4), (2, 5), (1, 2), (1, 6), (0, 3), (0, 7), (0, 8), (0, 9)] (by kernel_rfl) (by kernel_rfl) (fun c a d v w h => by cases d <;> exact h) ?_
  simp only [getPlan, List.filterMap_cons, List.filterMap_nil, List.getElem?_toArray, List.getElem?_cons_succ, List.getElem?_cons_zero, Option.map_some]
  repeat ((first | refine wpPlanK_pure (fun K hK => ?_) | refine wpPlanK_float (fun K hK => ?_)); go_simp; refine hK _ ?_; clear hK K)
  clear b2 b3
  refine wpPlanK_keep ?_
  go_wp2_with fail
  refine (HRD.out W.drew HP.out.rep.drew ra ha).mono ?_
  rintro e W' ⟨rfl, rfl⟩
  go_wp2_with fail
  refine ⟨grew_below (Below.refl _ _).drew, ?_⟩
  refine wpPlanK_keep ?_
  go_wp2_with fail
  refine (HRD.out W.drew HP.out.rep.drew rb hbr).mono ?_
  rintro e W' ⟨rfl, rfl⟩
  go_wp2_with fail
  refine ⟨grew_below (Below.refl _ _).drew, ?_⟩
  refine wpPlanK_keep ?_
  go_wp2_with fail
  refine ⟨grew_below (Below.refl _ _).drew, ?_⟩
  refine wpPlanK_keep ?_
  go_wp2_with fail
  refine ⟨grew_below (Below.refl _ _).drew, ?_⟩
  refine wpPlanK_nil ?_
  rw [HX.out.1, HX.out.2]
  go_upto_region 2 with (fail)
  refine wp_gen (fun V => PlW B L c rp s τ ov w ⟨4, to, ra, rb, (n : Int)⟩ V) ⟨HP.out.bel.drew, HP.out.box.drew, HP.out.rep.drew⟩ ?_
  clear HP lb W
  intro W P
  have b0 : W.cell? ⟨w.heap.size, 0, none⟩ = some (.int .i64 4) := P.box.cell 0
  have b1 : W.cell? ⟨w.heap.size, 1, none⟩ = some (.int .i64 to) := P.box.cell 1
  have b4 : W.cell? ⟨w.heap.size, 4, none⟩ = some (.int .u32 (n : Int)) := P.box.cell 4
  have lb : w.heap.size < W.heap.size := P.box.lt
  have lm : L.mb < W.heap.size := P.rep.mac.lt
  have lr : L.rb < W.heap.size := P.rep.reg.lt
  have c10 : W.cell? ⟨L.mb, 10, none⟩ = some (.slice (some ⟨L.rb, 0, none⟩) s.regs.length s.regs.length) := P.rep.mac.cell 10
  obtain ⟨q, qo, hA, hq, hql, hqc⟩ := P.rep.outer n hn
  obtain ⟨tl, htl⟩ := P.rep.arr n hn
  obtain ⟨xab, xao, hxA, hxl, hxc⟩ := P.rep.ro.ars n hac
  have c5 : W.cell? ⟨L.mb, 5, none⟩ = some (.slice (some ⟨q, qo, none⟩) s.arr.length L.arrC) := by rw [← hA]; exact P.rep.mac.cell 5
  have c0 : W.cell? ⟨L.mb, 0, none⟩ = some (.slice (some ⟨xab, xao, none⟩) c.ars.length L.arsC) := by rw [← hxA]; exact P.rep.mac.cell 0
  have cw : W.cell? ⟨xab, xao + n * 2, none⟩ = some (.bool true) := by have := hxc 0 (by omega); simp only [Ar.cell, List.getD_cons_zero, Nat.add_zero, hword] at this; exact this
  have lx : xab < W.heap.size := Nat.lt_of_lt_of_le hxl P.rep.hB
  have la : L.ab n < W.heap.size := htl.lt
  have cv : W.cell? ⟨L.ab n, v, none⟩ = some (.int .u32 ((s.arr.getD n []).getD v 0)) := by rw [htl.cell, ints_get_app hin]
  have fv := htl.frozen v
  have hv' := nat_cast_ltQ hin
  have HEL := Lib.hid (relement_in B L c rp s τ ov W P.rep n v hn (by omega) (by omega) hasz hin)
  have HIN := Lib.hid hin
  generalize (s.arr.getD n []).getD v 0 = y at cv
  have HP := Lib.hid P
  clear P
  clear hA htl hq hxA hxl hxc hword
  generalize hml : (s.arr.getD n []).length = ml at *
  have HML := Lib.hid hml
  clear hml
  go_wp2_with fail
  refine HEL.out.mono ?_
  rintro e W' ⟨rfl, rfl⟩
  go_wp2_with fail
  refine wp_region_grew [4, 6, 9] [0, 1, 2, 3, 5, 7, 8, 10] [(2, 0), (2, 1), (2, 2), (2, 3), (2, 5), (1, 4), (1, 6), (2, 7), (2, 8), (1, 9), (2, 10)] (by kernel_rfl) (by kernel_rfl) (fun c a d v w h => by cases d <;> exact h) ?_
  simp only [getPlan, List.filterMap_cons, List.filterMap_nil, List.getElem?_toArray, List.getElem?_cons_succ, List.getElem?_cons_zero, Option.map_some]
  repeat ((first | refine wpPlan_pure (fun K hK => ?_) | refine wpPlan_float (fun K hK => ?_)); go_simp; refine hK _ ?_; clear hK K)
  refine wpPlan_nil ?_
  go_wp2_with fail
  refine wp_region_grew [4, 6, 8] [0, 1, 2, 3, 5, 9, 10, 7, 11] [(2, 0), (2, 1), (2, 2), (2, 3), (2, 5), (2, 9), (2, 10), (1, 4), (1, 6), (2, 7), (1, 8), (2, 11), (0, 12)] (by kernel_rfl) (by kernel_rfl) (fun c a d v w h => by cases d <;> exact h) ?_
  simp only [getPlan, List.filterMap_cons, List.filterMap_nil, List.getElem?_toArray, List.getElem?_cons_succ, List.getElem?_cons_zero, Option.map_some]
  repeat ((first | refine wpPlan_pure (fun K hK => ?_) | refine wpPlan_float (fun K hK => ?_)); go_simp; refine hK _ ?_; clear hK K)
  refine wpPlan_tail (by kernel_rfl) ?_
  simp only [List.map_cons, List.map_nil]
  go_wp2
  refine bodyPost_end (results_none rfl _ _ _) rfl ?_
  exact ⟨rfl, by rw [HE.out]; exact HP.out.done HB.out (by have := HP.out.rep.drew.drew.setArr hn (r := v) (by rw [HML.out]; exact HIN.out) (xb); rwa [Nat.zero_add] at this) ((Keep.drew.trans Keep.drew).trans (Keep.set (HP.out.rep.ba n hn) (by rw [HP.out.rep.ta n hn]; omega)))⟩
set_option maxRecDepth 100000 in
set_option maxHeartbeats 1000000 in
theorem rplain_4y (B : Nat) (L : Lay) (c : MC) (rp : List Int) (s : PS) (τ : Nat → Nat) (ov : Value) (w : World) (R : RRep B L c rp s 0 τ ov w) (F : Fine c s) (to ra rb arg : Int) (ha : ra < 0 ∨ ra < c.regs) (hbr : rb < 0 ∨ rb < c.regs) (harg : 0 ≤ arg ∧ arg < 4294967296) (hna : arg < c.ars.length) (hword : (c.ars.getD arg.toNat default).word = false) (hin : (s.get ra).toNat < (s.arr.getD arg.toNat []).length) :
    Calls Try.prog 92 #[.pointer (some ⟨L.mb, 0, none⟩), .agg #[.int .i64 4, .int .i64 to, .int .i64 ra, .int .i64 rb, .int .u32 arg]] w fun e w' => e = .returned (.tuple #[]) ∧ RSt B L c rp τ w (effPost c s ⟨4, to, ra, rb, arg⟩).1 (effPost c s ⟨4, to, ra, rb, arg⟩).2 w' := by
  have hreg := F.regs
  obtain ⟨xa, hxa⟩ : ∃ xa, s.get ra = xa := ⟨_, rfl⟩
  obtain ⟨xb, hxb⟩ : ∃ xb, s.get rb = xb := ⟨_, rfl⟩
  have ua := F.get ra
  have ub := F.get rb
  rw [hxa] at ua
  rw [hxb] at ub
  have HX := Lib.hid (And.intro hxa hxb)
  have HRD := Lib.hid (fun W (R1 : RRep B L c rp s 0 τ ov W) (r : Int) (hr : r < 0 ∨ r < c.regs) => rread_any B L c rp s 0 τ ov W R1 r (by omega))
  have HF := Lib.hid F
  have HB := Lib.hid R.hB
  obtain ⟨n, rfl⟩ : ∃ n : Nat, arg = (n : Int) := ⟨arg.toNat, by omega⟩
  have harr := F.arr
  have hamx := F.amax
  have hn : n < s.arr.length := by omega
  have hn' := nat_cast_ltQ hn
  have hasz : (s.arr.getD n []).length ≤ 65536 := by
    rw [List.getD_eq_getElem?_getD, List.getElem?_eq_getElem hn]
    exact F.asz _ (List.getElem_mem hn)
  obtain ⟨v, rfl⟩ : ∃ v : Nat, xa = (v : Int) := ⟨xa.toNat, by omega⟩
  rw [hxa, Int.toNat_natCast, Int.toNat_natCast] at hin
  rw [Int.toNat_natCast] at hword
  have HE := Lib.hid (show effPost c s ⟨4, to, ra, rb, (n : Int)⟩ = ({ s with arr := s.arr.set n ((s.arr.getD n []).set v (xb % 256)) }, 0) by simp only [effPost, effect, reduceIte, Int.reduceEq, hxa, hxb, Int.toNat_natCast]; rw [if_pos hin, hword]; simp)
  have hac : n < c.ars.length := by omega
  have hac' := nat_cast_ltQ hac
  have HR := Lib.hid R
  clear hxa hxb F R
  go_enter Try.func92, Try.ntmps92
  go_upto_region 1 with (fail)
  refine wp_gen (fun W => PlW B L c rp s τ ov w ⟨4, to, ra, rb, (n : Int)⟩ W) ?_ ?_
  · have hb : Below w.heap.size w (w.alloc (.cells #[.int .i64 4, .int .i64 to, .int .i64 ra, .int .i64 rb, .int .u32 (n : Int)] 61)) := (Below.refl _ _).alloc (Nat.le_refl _) _
    exact ⟨hb, heap_new1 _ _, HR.out.below hb⟩
  intro W P
  have b2 : W.cell? ⟨w.heap.size, 2, none⟩ = some (.int .i64 ra) := P.box.cell 2
  have b3 : W.cell? ⟨w.heap.size, 3, none⟩ = some (.int .i64 rb) := P.box.cell 3
  have lb : w.heap.size < W.heap.size := P.box.lt
  have HP := Lib.hid P
  clear P HR
  go_wp2_with fail
  refine wp_region_keeps [0, 1, 4, 5] [(2, 0), (2, 1), (2, 4), (2, 5), (1, 2), (1, 6), (0, 3), (0, 7), (0, 8), (0, 9)] (by kernel_rfl) (by kernel_rfl) (fun c a d v w h => by cases d <;> exact h) ?_
  simp only [getPlan, List.filterMap_cons, List.filterMap_nil, List.getElem?_toArray, List.getElem?_cons_succ, List.getElem?_cons_zero, Option.map_some]
  repeat ((first | refine wpPlanK_pure (fun K hK => ?_) | refine wpPlanK_float (fun K hK => ?_)); go_simp; refine hK _ ?_; clear hK K)
  clear b2 b3
  refine wpPlanK_keep ?_
  go_wp2_with fail
  refine (HRD.out W.drew HP.out.rep.drew ra ha).mono ?_
  rintro e W' ⟨rfl, rfl⟩
  go_wp2_with fail
  refine ⟨grew_below (Below.refl _ _).drew, ?_⟩
  refine wpPlanK_keep ?_
  go_wp2_with fail
  refine (HRD.out W.drew HP.out.rep.drew rb hbr).mono ?_
  rintro e W' ⟨rfl, rfl⟩
  go_wp2_with fail
  refine ⟨grew_below (Below.refl _ _).drew, ?_⟩
  refine wpPlanK_keep ?_
  go_wp2_with fail
  refine ⟨grew_below (Below.refl _ _).drew, ?_⟩
  refine wpPlanK_keep ?_
  go_wp2_with fail
  refine ⟨grew_below (Below.refl _ _).drew, ?_⟩
  refine wpPlanK_nil ?_
  rw [HX.out.1, HX.out.2]
  go_upto_region 2 with (fail)
  refine wp_gen (fun V => PlW B L c rp s τ ov w ⟨4, to, ra, rb, (n : Int)⟩ V) ⟨HP.out.bel.drew, HP.out.box.drew, HP.out.rep.drew⟩ ?_
  clear HP lb W
  intro W P
  have b0 : W.cell? ⟨w.heap.size, 0, none⟩ = some (.int .i64 4) := P.box.cell 0
  have b1 : W.cell? ⟨w.heap.size, 1, none⟩ = some (.int .i64 to) := P.box.cell 1
  have b4 : W.cell? ⟨w.heap.size, 4, none⟩ = some (.int .u32 (n : Int)) := P.box.cell 4
  have lb : w.heap.size < W.heap.size := P.box.lt
  have lm : L.mb < W.heap.size := P.rep.mac.lt
  have lr : L.rb < W.heap.size := P.rep.reg.lt
  have c10 : W.cell? ⟨L.mb, 10, none⟩ = some (.slice (some ⟨L.rb, 0, none⟩) s.regs.length s.regs.length) := P.rep.mac.cell 10
  obtain ⟨q, qo, hA, hq, hql, hqc⟩ := P.rep.outer n hn
  obtain ⟨tl, htl⟩ := P.rep.arr n hn
  obtain ⟨xab, xao, hxA, hxl, hxc⟩ := P.rep.ro.ars n hac
  have c5 : W.cell? ⟨L.mb, 5, none⟩ = some (.slice (some ⟨q, qo, none⟩) s.arr.length L.arrC) := by rw [← hA]; exact P.rep.mac.cell 5
  have c0 : W.cell? ⟨L.mb, 0, none⟩ = some (.slice (some ⟨xab, xao, none⟩) c.ars.length L.arsC) := by rw [← hxA]; exact P.rep.mac.cell 0
  have cw : W.cell? ⟨xab, xao + n * 2, none⟩ = some (.bool false) := by have := hxc 0 (by omega); simp only [Ar.cell, List.getD_cons_zero, Nat.add_zero, hword] at this; exact this
  have lx : xab < W.heap.size := Nat.lt_of_lt_of_le hxl P.rep.hB
  have la : L.ab n < W.heap.size := htl.lt
  have cv : W.cell? ⟨L.ab n, v, none⟩ = some (.int .u32 ((s.arr.getD n []).getD v 0)) := by rw [htl.cell, ints_get_app hin]
  have fv := htl.frozen v
  have hv' := nat_cast_ltQ hin
  have HEL := Lib.hid (relement_in B L c rp s τ ov W P.rep n v hn (by omega) (by omega) hasz hin)
  have HIN := Lib.hid hin
  generalize (s.arr.getD n []).getD v 0 = y at cv
  have HP := Lib.hid P
  clear P
  clear hA htl hq hxA hxl hxc hword
  generalize hml : (s.arr.getD n []).length = ml at *
  have HML := Lib.hid hml
  clear hml
  go_wp2_with fail
  refine HEL.out.mono ?_
  rintro e W' ⟨rfl, rfl⟩
  go_wp2_with fail
  refine wp_region_grew [4, 6, 9] [0, 1, 2, 3, 5, 7, 8, 10] [(2, 0), (2, 1), (2, 2), (2, 3), (2, 5), (1, 4), (1, 6), (2, 7), (2, 8), (1, 9), (2, 10)] (by kernel_rfl) (by kernel_rfl) (fun c a d v w h => by cases d <;> exact h) ?_
  simp only [getPlan, List.filterMap_cons, List.filterMap_nil, List.getElem?_toArray, List.getElem?_cons_succ, List.getElem?_cons_zero, Option.map_some]
  repeat ((first | refine wpPlan_pure (fun K hK => ?_) | refine wpPlan_float (fun K hK => ?_)); go_simp; refine hK _ ?_; clear hK K)
  refine wpPlan_nil ?_
  go_wp2_with fail
  refine wp_region_grew [4, 6, 8] [0, 1, 2, 3, 5, 9, 10, 7, 11] [(2, 0), (2, 1), (2, 2), (2, 3), (2, 5), (2, 9), (2, 10), (1, 4), (1, 6), (2, 7), (1, 8), (2, 11), (0, 12)] (by kernel_rfl) (by kernel_rfl) (fun c a d v w h => by cases d <;> exact h) ?_
  simp only [getPlan, List.filterMap_cons, List.filterMap_nil, List.getElem?_toArray, List.getElem?_cons_succ, List.getElem?_cons_zero, Option.map_some]
  repeat ((first | refine wpPlan_pure (fun K hK => ?_) | refine wpPlan_float (fun K hK => ?_)); go_simp; refine hK _ ?_; clear hK K)
  refine wpPlan_tail (by kernel_rfl) ?_
  simp only [List.map_cons, List.map_nil]
  go_wp2
  refine bodyPost_end (results_none rfl _ _ _) rfl ?_
  exact ⟨rfl, by rw [HE.out]; exact HP.out.done HB.out (by have := HP.out.rep.drew.drew.setArr hn (r := v) (by rw [HML.out]; exact HIN.out) (xb % 256); rwa [Nat.zero_add] at this) ((Keep.drew.trans Keep.drew).trans (Keep.set (HP.out.rep.ba n hn) (by rw [HP.out.rep.ta n hn]; omega)))⟩
set_option maxRecDepth 100000 in
set_option maxHeartbeats 1000000 in
theorem rplain_4b (B : Nat) (L : Lay) (c : MC) (rp : List Int) (s : PS) (τ : Nat → Nat) (ov : Value) (w : World) (R : RRep B L c rp s 0 τ ov w) (F : Fine c s) (to ra rb arg : Int) (ha : ra < 0 ∨ ra < c.regs) (hbr : rb < 0 ∨ rb < c.regs) (harg : 0 ≤ arg ∧ arg < 4294967296) (hna : arg < c.ars.length) (hin : ¬ (s.get ra).toNat < (s.arr.getD arg.toNat []).length) :
    Calls Try.prog 92 #[.pointer (some ⟨L.mb, 0, none⟩), .agg #[.int .i64 4, .int .i64 to, .int .i64 ra, .int .i64 rb, .int .u32 arg]] w fun e w' => e = .returned (.tuple #[]) ∧ RSt B L c rp τ w (effPost c s ⟨4, to, ra, rb, arg⟩).1 (effPost c s ⟨4, to, ra, rb, arg⟩).2 w' := by
  have hreg := F.regs
  obtain ⟨xa, hxa⟩ : ∃ xa, s.get ra = xa := ⟨_, rfl⟩
  obtain ⟨xb, hxb⟩ : ∃ xb, s.get rb = xb := ⟨_, rfl⟩
  have ua := F.get ra
  have ub := F.get rb
  rw [hxa] at ua
  rw [hxb] at ub
  have HX := Lib.hid (And.intro hxa hxb)
  have HRD := Lib.hid (fun W (R1 : RRep B L c rp s 0 τ ov W) (r : Int) (hr : r < 0 ∨ r < c.regs) => rread_any B L c rp s 0 τ ov W R1 r (by omega))
  have HF := Lib.hid F
  have HB := Lib.hid R.hB
  obtain ⟨n, rfl⟩ : ∃ n : Nat, arg = (n : Int) := ⟨arg.toNat, by omega⟩
  have harr := F.arr
  have hamx := F.amax
  have hn : n < s.arr.length := by omega
  have hn' := nat_cast_ltQ hn
  have hasz : (s.arr.getD n []).length ≤ 65536 := by
    rw [List.getD_eq_getElem?_getD, List.getElem?_eq_getElem hn]
    exact F.asz _ (List.getElem_mem hn)
  obtain ⟨v, rfl⟩ : ∃ v : Nat, xa = (v : Int) := ⟨xa.toNat, by omega⟩
  rw [hxa, Int.toNat_natCast, Int.toNat_natCast] at hin
  have HE := Lib.hid (show effPost c s ⟨4, to, ra, rb, (n : Int)⟩ = (s, 16) by simp only [effPost, effect, reduceIte, Int.reduceEq, hxa, Int.toNat_natCast]; rw [if_neg hin])
  have HR := Lib.hid R
  clear hxa hxb F R
  go_enter Try.func92, Try.ntmps92
  go_upto_region 1 with (fail)
  refine wp_gen (fun W => PlW B L c rp s τ ov w ⟨4, to, ra, rb, (n : Int)⟩ W) ?_ ?_
  · have hb : Below w.heap.size w (w.alloc (.cells #[.int .i64 4, .int .i64 to, .int .i64 ra, .int .i64 rb, .int .u32 (n : Int)] 61)) := (Below.refl _ _).alloc (Nat.le_refl _) _
    exact ⟨hb, heap_new1 _ _, HR.out.below hb⟩
  intro W P
  have b2 : W.cell? ⟨w.heap.size, 2, none⟩ = some (.int .i64 ra) := P.box.cell 2
  have b3 : W.cell? ⟨w.heap.size, 3, none⟩ = some (.int .i64 rb) := P.box.cell 3
  have lb : w.heap.size < W.heap.size := P.box.lt
  have HP := Lib.hid P
  clear P HR
  go_wp2_with fail
  refine wp_region_keeps [0, 1, 4, 5] [(2, 0), (2, 1), (2, 4), (2, 5), (1, 2), (1, 6), (0, 3), (0, 7), (0, 8), (0, 9)] (by kernel_rfl) (by kernel_rfl) (fun c a d v w h => by cases d <;> exact h) ?_
  simp only [getPlan, List.filterMap_cons, List.filterMap_nil, List.getElem?_toArray, List.getElem?_cons_succ, List.getElem?_cons_zero, Option.map_some]
  repeat ((first | refine wpPlanK_pure (fun K hK => ?_) | refine wpPlanK_float (fun K hK => ?_)); go_simp; refine hK _ ?_; clear hK K)
  clear b2 b3
  refine wpPlanK_keep ?_
  go_wp2_with fail
  refine (HRD.out W.drew HP.out.rep.drew ra ha).mono ?_
  rintro e W' ⟨rfl, rfl⟩
  go_wp2_with fail
  refine ⟨grew_below (Below.refl _ _).drew, ?_⟩
  refine wpPlanK_keep ?_
  go_wp2_with fail
  refine (HRD.out W.drew HP.out.rep.drew rb hbr).mono ?_
  rintro e W' ⟨rfl, rfl⟩
  go_wp2_with fail
  refine ⟨grew_below (Below.refl _ _).drew, ?_⟩
  refine wpPlanK_keep ?_
  go_wp2_with fail
  refine ⟨grew_below (Below.refl _ _).drew, ?_⟩
  refine wpPlanK_keep ?_
  go_wp2_with fail
  refine ⟨grew_below (Below.refl _ _).drew, ?_⟩
  refine wpPlanK_nil ?_
  rw [HX.out.1, HX.out.2]
  go_upto_region 2 with (fail)
  refine wp_gen (fun V => PlW B L c rp s τ ov w ⟨4, to, ra, rb, (n : Int)⟩ V) ⟨HP.out.bel.drew, HP.out.box.drew, HP.out.rep.drew⟩ ?_
  clear HP lb W
  intro W P
  have b0 : W.cell? ⟨w.heap.size, 0, none⟩ = some (.int .i64 4) := P.box.cell 0
  have b1 : W.cell? ⟨w.heap.size, 1, none⟩ = some (.int .i64 to) := P.box.cell 1
  have b4 : W.cell? ⟨w.heap.size, 4, none⟩ = some (.int .u32 (n : Int)) := P.box.cell 4
  have lb : w.heap.size < W.heap.size := P.box.lt
  have lm : L.mb < W.heap.size := P.rep.mac.lt
  have lr : L.rb < W.heap.size := P.rep.reg.lt
  have c10 : W.cell? ⟨L.mb, 10, none⟩ = some (.slice (some ⟨L.rb, 0, none⟩) s.regs.length s.regs.length) := P.rep.mac.cell 10
  have hel := relement_any B L c rp s τ ov W P.rep n (v : Int) hn ⟨by omega, by omega⟩ (by omega) hasz
  rw [Int.toNat_natCast, if_neg hin, decide_eq_false hin] at hel
  have HEL := Lib.hid hel
  have HP := Lib.hid P
  clear P
  clear hel
  go_wp2_with fail
  refine HEL.out.mono ?_
  rintro e W' ⟨rfl, τ', ov', R', K'⟩
  have HR' := Lib.hid (And.intro R' K')
  clear R' K'
  go_wp2
  refine bodyPost_ret (results_none rfl _ _ _) rfl ?_
  exact ⟨rfl, by rw [HE.out]; exact HP.out.done HB.out HR'.out.1 HR'.out.2⟩
set_option maxRecDepth 100000 in
set_option maxHeartbeats 1000000 in
theorem rplain_ar (B : Nat) (L : Lay) (c : MC) (rp : List Int) (s : PS) (τ : Nat → Nat) (ov : Value) (w : World) (R : RRep B L c rp s 0 τ ov w) (F : Fine c s) (op to ra rb arg : Int) (ha : ra < 0 ∨ ra < c.regs) (hbr : rb < 0 ∨ rb < c.regs) (harg : 0 ≤ arg ∧ arg < 4294967296) (hto : 0 ≤ to ∧ to < c.regs) (ho : 8 ≤ op ∧ op ≤ 26) (hae : arithErr op (s.get rb) = 0) :
    Calls Try.prog 92 #[.pointer (some ⟨L.mb, 0, none⟩), .agg #[.int .i64 op, .int .i64 to, .int .i64 ra, .int .i64 rb, .int .u32 arg]] w fun e w' => e = .returned (.tuple #[]) ∧ RSt B L c rp τ w (effPost c s ⟨op, to, ra, rb, arg⟩).1 (effPost c s ⟨op, to, ra, rb, arg⟩).2 w' := by
  have hreg := F.regs
  obtain ⟨xa, hxa⟩ : ∃ xa, s.get ra = xa := ⟨_, rfl⟩
  obtain ⟨xb, hxb⟩ : ∃ xb, s.get rb = xb := ⟨_, rfl⟩
  have ua := F.get ra
  have ub := F.get rb
  rw [hxa] at ua
  rw [hxb] at ub
  have HX := Lib.hid (And.intro hxa hxb)
  have HRD := Lib.hid (fun W (R1 : RRep B L c rp s 0 τ ov W) (r : Int) (hr : r < 0 ∨ r < c.regs) => rread_any B L c rp s 0 τ ov W R1 r (by omega))
  have HF := Lib.hid F
  have HB := Lib.hid R.hB
  obtain ⟨t, rfl⟩ : ∃ t : Nat, to = (t : Int) := ⟨to.toNat, by omega⟩
  have ht : t < s.regs.length := by omega
  have ht' := nat_cast_ltQ ht
  rw [hxb] at hae
  obtain ⟨z, hz⟩ : ∃ z, arith op xa xb = z := ⟨_, rfl⟩
  have HE := Lib.hid (show effPost c s ⟨op, (t : Int), ra, rb, arg⟩ = ({ s with regs := s.regs.set t z }, 0) by
    simp only [effPost, effect]; rw [if_neg (by show ¬ op = 0; omega), if_neg (by show ¬ op = 36; omega), if_neg (by show ¬ op = 37; omega), if_neg (by show ¬ op = 38; omega), if_neg (by show ¬ op = 32; omega), if_neg (by show ¬ op = 33; omega), if_neg (by show ¬ op = 34; omega), if_neg (by show ¬ op = 35; omega), if_neg (by show ¬ op = 3; omega), if_neg (by show ¬ op = 4; omega), if_neg (by show ¬ op = 27; omega), if_neg (by show ¬ op = 28; omega), if_neg (by show ¬ op = 29; omega), if_neg (by show ¬ op = 30; omega), if_neg (by show ¬ op = 31; omega)]
    simp only [hxa, hxb]
    rw [if_pos hae, hz]
    simp [PS.put])
  have hap := fun W => rapply_any op xa xb ho ua.1 ua.2 ub.1 ub.2 W
  rw [hae, if_pos rfl, hz] at hap
  have HAP := Lib.hid hap
  have q0 : (op == 0) = false := by simp; omega
  have q36 : (op == 36) = false := by simp; omega
  have q37 : (op == 37) = false := by simp; omega
  have q38 : (op == 38) = false := by simp; omega
  have q32 : (op == 32) = false := by simp; omega
  have q33 : (op == 33) = false := by simp; omega
  have q34 : (op == 34) = false := by simp; omega
  have q35 : (op == 35) = false := by simp; omega
  have q3 : (op == 3) = false := by simp; omega
  have q4 : (op == 4) = false := by simp; omega
  clear hap hz hae
  have HR := Lib.hid R
  clear hxa hxb F R
  go_enter Try.func92, Try.ntmps92
  go_upto_region 1 with (fail)
  refine wp_gen (fun W => PlW B L c rp s τ ov w ⟨op, (t : Int), ra, rb, arg⟩ W) ?_ ?_
  · have hb : Below w.heap.size w (w.alloc (.cells #[.int .i64 op, .int .i64 (t : Int), .int .i64 ra, .int .i64 rb, .int .u32 arg] 61)) := (Below.refl _ _).alloc (Nat.le_refl _) _
    exact ⟨hb, heap_new1 _ _, HR.out.below hb⟩
  intro W P
  have b2 : W.cell? ⟨w.heap.size, 2, none⟩ = some (.int .i64 ra) := P.box.cell 2
  have b3 : W.cell? ⟨w.heap.size, 3, none⟩ = some (.int .i64 rb) := P.box.cell 3
  have lb : w.heap.size < W.heap.size := P.box.lt
  have HP := Lib.hid P
  clear P HR
  go_wp2_with fail
  refine wp_region_keeps [0, 1, 4, 5] [(2, 0), (2, 1), (2, 4), (2, 5), (1, 2), (1, 6), (0, 3), (0, 7), (0, 8), (0, 9)] (by kernel_rfl) (by kernel_rfl) (fun c a d v w h => by cases d <;> exact h) ?_
  simp only [getPlan, List.filterMap_cons, List.filterMap_nil, List.getElem?_toArray, List.getElem?_cons_succ, List.getElem?_cons_zero, Option.map_some]
  repeat ((first | refine wpPlanK_pure (fun K hK => ?_) | refine wpPlanK_float (fun K hK => ?_)); go_simp; refine hK _ ?_; clear hK K)
  clear b2 b3
  refine wpPlanK_keep ?_
  go_wp2_with fail
  refine (HRD.out W.drew HP.out.rep.drew ra ha).mono ?_
  rintro e W' ⟨rfl, rfl⟩
  go_wp2_with fail
  refine ⟨grew_below (Below.refl _ _).drew, ?_⟩
  refine wpPlanK_keep ?_
  go_wp2_with fail
  refine (HRD.out W.drew HP.out.rep.drew rb hbr).mono ?_
  rintro e W' ⟨rfl, rfl⟩
  go_wp2_with fail
  refine ⟨grew_below (Below.refl _ _).drew, ?_⟩
  refine wpPlanK_keep ?_
  go_wp2_with fail
  refine ⟨grew_below (Below.refl _ _).drew, ?_⟩
  refine wpPlanK_keep ?_
  go_wp2_with fail
  refine ⟨grew_below (Below.refl _ _).drew, ?_⟩
  refine wpPlanK_nil ?_
  rw [HX.out.1, HX.out.2]
  go_upto_region 2 with (fail)
  refine wp_gen (fun V => PlW B L c rp s τ ov w ⟨op, (t : Int), ra, rb, arg⟩ V) ⟨HP.out.bel.drew, HP.out.box.drew, HP.out.rep.drew⟩ ?_
  clear HP lb W
  intro W P
  have b0 : W.cell? ⟨w.heap.size, 0, none⟩ = some (.int .i64 op) := P.box.cell 0
  have b1 : W.cell? ⟨w.heap.size, 1, none⟩ = some (.int .i64 (t : Int)) := P.box.cell 1
  have b4 : W.cell? ⟨w.heap.size, 4, none⟩ = some (.int .u32 arg) := P.box.cell 4
  have lb : w.heap.size < W.heap.size := P.box.lt
  have lm : L.mb < W.heap.size := P.rep.mac.lt
  have lr : L.rb < W.heap.size := P.rep.reg.lt
  have c10 : W.cell? ⟨L.mb, 10, none⟩ = some (.slice (some ⟨L.rb, 0, none⟩) s.regs.length s.regs.length) := P.rep.mac.cell 10
  have ct : W.cell? ⟨L.rb, t, none⟩ = some (.int .u32 (s.regs.getD t 0)) := by rw [P.rep.reg.cell, ints_get ht]
  have ft := P.rep.reg.frozen t
  generalize s.regs.getD t 0 = y at ct
  have HP := Lib.hid P
  clear P
  go_wp2_with fail
  refine (HAP.out W).mono ?_
  rintro e W' ⟨rfl, rfl⟩
  go_wp2_with fail
  refine wp_region_grew [3, 5] [0, 1, 2, 4, 6, 7] [(2, 0), (2, 1), (2, 2), (2, 4), (2, 6), (1, 3), (1, 5), (2, 7), (0, 8)] (by kernel_rfl) (by kernel_rfl) (fun c a d v w h => by cases d <;> exact h) ?_
  simp only [getPlan, List.filterMap_cons, List.filterMap_nil, List.getElem?_toArray, List.getElem?_cons_succ, List.getElem?_cons_zero, Option.map_some]
  repeat ((first | refine wpPlan_pure (fun K hK => ?_) | refine wpPlan_float (fun K hK => ?_)); go_simp; refine hK _ ?_; clear hK K)
  refine wpPlan_tail (by kernel_rfl) ?_
  simp only [List.map_cons, List.map_nil]
  go_wp2
  refine bodyPost_end (results_none rfl _ _ _) rfl ?_
  exact ⟨rfl, by rw [HE.out]; exact HP.out.done HB.out (HP.out.rep.drew.reg' ht _) (Keep.drew.trans (Keep.set HP.out.rep.br (by rw [HP.out.rep.tr]; omega)))⟩
set_option maxRecDepth 100000 in
set_option maxHeartbeats 1000000 in
theorem rplain_ae (B : Nat) (L : Lay) (c : MC) (rp : List Int) (s : PS) (τ : Nat → Nat) (ov : Value) (w : World) (R : RRep B L c rp s 0 τ ov w) (F : Fine c s) (op to ra rb arg : Int) (ha : ra < 0 ∨ ra < c.regs) (hbr : rb < 0 ∨ rb < c.regs) (harg : 0 ≤ arg ∧ arg < 4294967296) (ho : 8 ≤ op ∧ op ≤ 26) (hae : ¬ arithErr op (s.get rb) = 0) :
    Calls Try.prog 92 #[.pointer (some ⟨L.mb, 0, none⟩), .agg #[.int .i64 op, .int .i64 to, .int .i64 ra, .int .i64 rb, .int .u32 arg]] w fun e w' => e = .returned (.tuple #[]) ∧ RSt B L c rp τ w (effPost c s ⟨op, to, ra, rb, arg⟩).1 (effPost c s ⟨op, to, ra, rb, arg⟩).2 w' := by
  have hreg := F.regs
  obtain ⟨xa, hxa⟩ : ∃ xa, s.get ra = xa := ⟨_, rfl⟩
  obtain ⟨xb, hxb⟩ : ∃ xb, s.get rb = xb := ⟨_, rfl⟩
  have ua := F.get ra
  have ub := F.get rb
  rw [hxa] at ua
  rw [hxb] at ub
  have HX := Lib.hid (And.intro hxa hxb)
  have HRD := Lib.hid (fun W (R1 : RRep B L c rp s 0 τ ov W) (r : Int) (hr : r < 0 ∨ r < c.regs) => rread_any B L c rp s 0 τ ov W R1 r (by omega))
  have HF := Lib.hid F
  have HB := Lib.hid R.hB
  rw [hxb] at hae
  obtain ⟨z, hz⟩ : ∃ z, arithErr op xb = z := ⟨_, rfl⟩
  have HE := Lib.hid (show effPost c s ⟨op, to, ra, rb, arg⟩ = (s, z) by
    simp only [effPost, effect]; rw [if_neg (by show ¬ op = 0; omega), if_neg (by show ¬ op = 36; omega), if_neg (by show ¬ op = 37; omega), if_neg (by show ¬ op = 38; omega), if_neg (by show ¬ op = 32; omega), if_neg (by show ¬ op = 33; omega), if_neg (by show ¬ op = 34; omega), if_neg (by show ¬ op = 35; omega), if_neg (by show ¬ op = 3; omega), if_neg (by show ¬ op = 4; omega), if_neg (by show ¬ op = 27; omega), if_neg (by show ¬ op = 28; omega), if_neg (by show ¬ op = 29; omega), if_neg (by show ¬ op = 30; omega), if_neg (by show ¬ op = 31; omega)]
    simp only [hxa, hxb]
    rw [if_neg hae, hz])
  have hap := fun W => rapply_any op xa xb ho ua.1 ua.2 ub.1 ub.2 W
  rw [if_neg hae, hz] at hap
  have HAP := Lib.hid hap
  rw [hz] at hae
  have qz : (z != 0) = true := by simpa using hae
  have q0 : (op == 0) = false := by simp; omega
  have q36 : (op == 36) = false := by simp; omega
  have q37 : (op == 37) = false := by simp; omega
  have q38 : (op == 38) = false := by simp; omega
  have q32 : (op == 32) = false := by simp; omega
  have q33 : (op == 33) = false := by simp; omega
  have q34 : (op == 34) = false := by simp; omega
  have q35 : (op == 35) = false := by simp; omega
  have q3 : (op == 3) = false := by simp; omega
  have q4 : (op == 4) = false := by simp; omega
  clear hap hz hae
  have HR := Lib.hid R
  clear hxa hxb F R
  go_enter Try.func92, Try.ntmps92
  go_upto_region 1 with (fail)
  refine wp_gen (fun W => PlW B L c rp s τ ov w ⟨op, to, ra, rb, arg⟩ W) ?_ ?_
  · have hb : Below w.heap.size w (w.alloc (.cells #[.int .i64 op, .int .i64 to, .int .i64 ra, .int .i64 rb, .int .u32 arg] 61)) := (Below.refl _ _).alloc (Nat.le_refl _) _
    exact ⟨hb, heap_new1 _ _, HR.out.below hb⟩
  intro W P
  have b2 : W.cell? ⟨w.heap.size, 2, none⟩ = some (.int .i64 ra) := P.box.cell 2
  have b3 : W.cell? ⟨w.heap.size, 3, none⟩ = some (.int .i64 rb) := P.box.cell 3
  have lb : w.heap.size < W.heap.size := P.box.lt
  have HP := Lib.hid P
  clear P HR
  go_wp2_with fail
  refine wp_region_keeps [0, 1, 4, 5] [(2, 0), (2, 1), (2, 4), (2, 5), (1, 2), (1, 6), (0, 3), (0, 7), (0, 8), (0, 9)] (by kernel_rfl) (by kernel_rfl) (fun c a d v w h => by cases d <;> exact h) ?_
  simp only [getPlan, List.filterMap_cons, List.filterMap_nil, List.getElem?_toArray, List.getElem?_cons_succ, List.getElem?_cons_zero, Option.map_some]
  repeat ((first | refine wpPlanK_pure (fun K hK => ?_) | refine wpPlanK_float (fun K hK => ?_)); go_simp; refine hK _ ?_; clear hK K)
  clear b2 b3
  refine wpPlanK_keep ?_
  go_wp2_with fail
  refine (HRD.out W.drew HP.out.rep.drew ra ha).mono ?_
  rintro e W' ⟨rfl, rfl⟩
  go_wp2_with fail
  refine ⟨grew_below (Below.refl _ _).drew, ?_⟩
  refine wpPlanK_keep ?_
  go_wp2_with fail
  refine (HRD.out W.drew HP.out.rep.drew rb hbr).mono ?_
  rintro e W' ⟨rfl, rfl⟩
  go_wp2_with fail
  refine ⟨grew_below (Below.refl _ _).drew, ?_⟩
  refine wpPlanK_keep ?_
  go_wp2_with fail
  refine ⟨grew_below (Below.refl _ _).drew, ?_⟩
  refine wpPlanK_keep ?_
  go_wp2_with fail
  refine ⟨grew_below (Below.refl _ _).drew, ?_⟩
  refine wpPlanK_nil ?_
  rw [HX.out.1, HX.out.2]
  go_upto_region 2 with (fail)
  refine wp_gen (fun V => PlW B L c rp s τ ov w ⟨op, to, ra, rb, arg⟩ V) ⟨HP.out.bel.drew, HP.out.box.drew, HP.out.rep.drew⟩ ?_
  clear HP lb W
  intro W P
  have b0 : W.cell? ⟨w.heap.size, 0, none⟩ = some (.int .i64 op) := P.box.cell 0
  have b1 : W.cell? ⟨w.heap.size, 1, none⟩ = some (.int .i64 to) := P.box.cell 1
  have b4 : W.cell? ⟨w.heap.size, 4, none⟩ = some (.int .u32 arg) := P.box.cell 4
  have lb : w.heap.size < W.heap.size := P.box.lt
  have lm : L.mb < W.heap.size := P.rep.mac.lt
  have lr : L.rb < W.heap.size := P.rep.reg.lt
  have c10 : W.cell? ⟨L.mb, 10, none⟩ = some (.slice (some ⟨L.rb, 0, none⟩) s.regs.length s.regs.length) := P.rep.mac.cell 10
  have c14 : W.cell? ⟨L.mb, 14, none⟩ = some (.int .i64 0) := P.rep.mac.cell 14
  have f14 := P.rep.mac.frozen 14
  have HP := Lib.hid P
  clear P
  go_wp2_with fail
  refine (HAP.out W).mono ?_
  rintro e W' ⟨rfl, rfl⟩
  go_wp2
  refine bodyPost_ret (results_none rfl _ _ _) rfl ?_
  exact ⟨rfl, by rw [HE.out]; exact HP.out.done HB.out (HP.out.rep.setErr z) (Keep.set HP.out.rep.bm (by rw [HP.out.rep.tm]; omega))⟩
end Go.Proofs.Ytefdnjhhaejgbaa

namespace Go.Proofs.Ytefdnjhhaejgbaa
open Go.RowKit
set_option linter.unusedVariables false
theorem eff_fine {c : MC} {s s' : PS} {i : RI} (F : Fine c s) (harg : 0 ≤ i.arg ∧ i.arg < 4294967296) (hp : i.op ≠ 27 ∧ i.op ≠ 28 ∧ i.op ≠ 29 ∧ i.op ≠ 30 ∧ i.op ≠ 31) (he : effect c s i = .ok s') : Fine c s' ∧ s'.pc = s.pc ∧ s'.loops = s.loops ∧ s'.steps = s.steps := by
  have plain : ∀ s2 : PS, s' = s2 → Fine c s2 → s2.pc = s.pc → s2.loops = s.loops → s2.steps = s.steps → Fine c s' ∧ s'.pc = s.pc ∧ s'.loops = s.loops ∧ s'.steps = s.steps := by
    rintro s2 rfl F2 h1 h2 h3
    exact ⟨F2, h1, h2, h3⟩
  unfold effect at he
  by_cases o0 : i.op = 0
  · rw [if_pos o0] at he
    exact plain _ (Except.ok.inj he).symm (F.put _ harg) rfl rfl rfl
  rw [if_neg o0] at he
  by_cases o36 : i.op = 36
  · rw [if_pos o36] at he
    exact plain _ (Except.ok.inj he).symm (F.put _ (F.got _)) rfl rfl rfl
  rw [if_neg o36] at he
  by_cases o37 : i.op = 37
  · rw [if_pos o37] at he
    exact plain _ (Except.ok.inj he).symm { F with spl := by simp; exact F.spl, s32 := u32s_set F.s32 _ (F.got _) } rfl rfl rfl
  rw [if_neg o37] at he
  by_cases o38 : i.op = 38
  · rw [if_pos o38] at he
    exact plain _ (Except.ok.inj he).symm (F.put _ (u32s_at F.s32 _)) rfl rfl rfl
  rw [if_neg o38] at he
  by_cases o32 : i.op = 32
  · rw [if_pos o32] at he
    exact plain _ (Except.ok.inj he).symm (F.put _ F.in0) rfl rfl rfl
  rw [if_neg o32] at he
  by_cases o33 : i.op = 33
  · rw [if_pos o33] at he
    exact plain _ (Except.ok.inj he).symm (F.put _ (by split <;> simp [u32])) rfl rfl rfl
  rw [if_neg o33] at he
  by_cases o34 : i.op = 34
  · rw [if_pos o34] at he
    split at he
    · rename_i hlt
      refine plain _ (Except.ok.inj he).symm { F with o8 := fun x hx => ?_, olen := by simp; omega } rfl rfl rfl
      simp only [List.mem_append, List.mem_singleton] at hx
      rcases hx with hx | rfl
      · exact F.o8 x hx
      · omega
    · cases he
  rw [if_neg o34] at he
  by_cases o35 : i.op = 35
  · rw [if_pos o35] at he
    exact plain _ (Except.ok.inj he).symm { F with ctx := by simp; exact F.ctx, c32 := u32s_set F.c32 _ (F.got _) } rfl rfl rfl
  rw [if_neg o35] at he
  have harr : ∀ k, u32s (s.arr.getD k []) := fun k => by
    rw [List.getD_eq_getElem?_getD]
    cases hx : s.arr[k]? with
    | none => intro x hx; cases hx
    | some v => exact F.a32 v (List.mem_of_getElem? hx)
  by_cases o3 : i.op = 3
  · rw [if_pos o3] at he
    split at he
    · exact plain _ (Except.ok.inj he).symm (F.put _ (u32s_at (harr _) _)) rfl rfl rfl
    · cases he
  rw [if_neg o3] at he
  by_cases o4 : i.op = 4
  · rw [if_pos o4] at he
    split at he
    · rename_i hlt
      have hv : u32 (if (c.ars.getD i.arg.toNat default).word then s.get i.b else s.get i.b % 256) := by
        have := F.got i.b
        unfold u32 at *
        split <;> omega
      refine plain _ (Except.ok.inj he).symm { F with arr := by simp; exact F.arr, a32 := fun a ha => ?_, asz := fun a ha => ?_ } rfl rfl rfl
      · rcases List.mem_or_eq_of_mem_set ha with ha | ha
        · exact F.a32 a ha
        · subst ha; exact u32s_set (harr _) _ hv
      · rcases List.mem_or_eq_of_mem_set ha with ha | ha
        · exact F.asz a ha
        · subst ha
          rw [List.length_set, List.getD_eq_getElem?_getD]
          cases hx : s.arr[i.arg.toNat]? with
          | none => simp
          | some v => exact F.asz v (List.mem_of_getElem? hx)
    · cases he
  rw [if_neg o4] at he
  rw [if_neg hp.1, if_neg hp.2.1, if_neg hp.2.2.1, if_neg hp.2.2.2.1, if_neg hp.2.2.2.2] at he
  split at he
  · rename_i hz
    exact plain _ (Except.ok.inj he).symm (F.put _ (arith_u32 _ _ _ (F.got _) (F.got _) hz)) rfl rfl rfl
  · cases he
theorem rplain_any (B : Nat) (L : Lay) (c : MC) (rp : List Int) (s : PS) (τ : Nat → Nat) (ov : Value) (w : World) (R : RRep B L c rp s 0 τ ov w) (F : Fine c s) (i : RI) (hi : chkI c.regs c.spills c.ars.length i = 0) (harg : 0 ≤ i.arg ∧ i.arg < 4294967296) (hp : i.op ≠ 27 ∧ i.op ≠ 28 ∧ i.op ≠ 29 ∧ i.op ≠ 30 ∧ i.op ≠ 31) :
    Calls Try.prog 92 #[.pointer (some ⟨L.mb, 0, none⟩), i.val] w fun e w' => e = .returned (.tuple #[]) ∧ RSt B L c rp τ w (effPost c s i).1 (effPost c s i).2 w' := by
  obtain ⟨op, to, a, b, arg⟩ := i
  obtain ⟨k1, k2, k3, k4, k5⟩ := chkI_ok hi
  have ha := right_any k3
  have hb := right_any k4
  simp only at k1 k2 k5 ha hb harg hp
  by_cases o0 : op = 0
  · subst o0; exact rplain_0 B L c rp s τ ov w R F to a b arg ha hb harg (right_used k2 (by decide))
  by_cases o36 : op = 36
  · subst o36; exact rplain_36 B L c rp s τ ov w R F to a b arg ha hb harg (right_used k2 (by decide))
  by_cases o37 : op = 37
  · subst o37; exact rplain_37 B L c rp s τ ov w R F to a b arg ha hb harg (by simp [mostArg] at k5; omega)
  by_cases o38 : op = 38
  · subst o38; exact rplain_38 B L c rp s τ ov w R F to a b arg ha hb harg (right_used k2 (by decide)) (by simp [mostArg] at k5; omega)
  by_cases o32 : op = 32
  · subst o32; exact rplain_32 B L c rp s τ ov w R F to a b arg ha hb harg (right_used k2 (by decide))
  by_cases o33 : op = 33
  · subst o33; exact rplain_33 B L c rp s τ ov w R F to a b arg ha hb harg (right_used k2 (by decide))
  by_cases o34 : op = 34
  · subst o34
    by_cases hl : s.out.length < 65536
    · exact rplain_34a B L c rp s τ ov w R F to a b arg ha hb harg hl
    · exact rplain_34b B L c rp s τ ov w R F to a b arg ha hb harg hl
  by_cases o35 : op = 35
  · subst o35; exact rplain_35 B L c rp s τ ov w R F to a b arg ha hb harg (by simp [mostArg] at k5; omega)
  by_cases o3 : op = 3
  · subst o3
    have hna : arg < c.ars.length := by simp [mostArg] at k5; omega
    by_cases hin : (s.get a).toNat < (s.arr.getD arg.toNat []).length
    · exact rplain_3a B L c rp s τ ov w R F to a b arg ha hb harg (right_used k2 (by decide)) hna hin
    · exact rplain_3b B L c rp s τ ov w R F to a b arg ha hb harg (right_used k2 (by decide)) hna hin
  by_cases o4 : op = 4
  · subst o4
    have hna : arg < c.ars.length := by simp [mostArg] at k5; omega
    by_cases hin : (s.get a).toNat < (s.arr.getD arg.toNat []).length
    · cases hw : (c.ars.getD arg.toNat default).word with
      | true => exact rplain_4w B L c rp s τ ov w R F to a b arg ha hb harg hna hw hin
      | false => exact rplain_4y B L c rp s τ ov w R F to a b arg ha hb harg hna hw hin
    · exact rplain_4b B L c rp s τ ov w R F to a b arg ha hb harg hna hin
  have ho : 8 ≤ op ∧ op ≤ 26 := by simp [isOp] at k1; omega
  by_cases he : arithErr op (s.get b) = 0
  · exact rplain_ar B L c rp s τ ov w R F op to a b arg ha hb harg (right_used k2 (by simp [usesTo]; omega)) ho he
  · exact rplain_ae B L c rp s τ ov w R F op to a b arg ha hb harg ho he
end Go.Proofs.Ytefdnjhhaejgbaa

namespace Go.Proofs.Ytefdnjhhaejgbaa
open Go.RowKit
set_option linter.unusedVariables false
theorem tick_err19 {c : MC} {s : PS} {n : Int} (h : tick c s = .error n) : n = 19 := by
  unfold tick at h
  split at h <;> cases h
  rfl
theorem effect_errnz {c : MC} {s : PS} {i : RI} {n : Int} (h : effect c s i = .error n) : n ≠ 0 := by
  unfold effect at h
  by_cases h0 : i.op = 0
  · rw [if_pos h0] at h; cases h
  rw [if_neg h0] at h
  by_cases h36 : i.op = 36
  · rw [if_pos h36] at h; cases h
  rw [if_neg h36] at h
  by_cases h37 : i.op = 37
  · rw [if_pos h37] at h; cases h
  rw [if_neg h37] at h
  by_cases h38 : i.op = 38
  · rw [if_pos h38] at h; cases h
  rw [if_neg h38] at h
  by_cases h32 : i.op = 32
  · rw [if_pos h32] at h; cases h
  rw [if_neg h32] at h
  by_cases h33 : i.op = 33
  · rw [if_pos h33] at h; cases h
  rw [if_neg h33] at h
  by_cases h34 : i.op = 34
  · rw [if_pos h34] at h; split at h <;> cases h; decide
  rw [if_neg h34] at h
  by_cases h35 : i.op = 35
  · rw [if_pos h35] at h; cases h
  rw [if_neg h35] at h
  by_cases h3 : i.op = 3
  · rw [if_pos h3] at h; split at h <;> cases h; decide
  rw [if_neg h3] at h
  by_cases h4 : i.op = 4
  · rw [if_pos h4] at h; split at h <;> cases h; decide
  rw [if_neg h4] at h
  by_cases h27 : i.op = 27
  · rw [if_pos h27] at h; cases h
  rw [if_neg h27] at h
  by_cases h28 : i.op = 28
  · rw [if_pos h28] at h; cases h
  rw [if_neg h28] at h
  by_cases h29 : i.op = 29
  · rw [if_pos h29] at h
    split at h
    · cases h; decide
    · split at h
      · cases h
      · have := tick_err19 h; omega
  rw [if_neg h29] at h
  by_cases h30 : i.op = 30
  · rw [if_pos h30] at h; cases h
  rw [if_neg h30] at h
  by_cases h31 : i.op = 31
  · rw [if_pos h31] at h
    split at h
    · cases h
    · split at h
      · cases h
      · split at h
        · cases h
        · have := tick_err19 h; omega
  rw [if_neg h31] at h
  split at h
  · cases h
  · rename_i hz
    cases h
    exact hz
theorem loopRun_on {c : MC} {body : PS → Out} {j : Nat} {s : PS} (h : s.steps < c.fuel) : loopRun c body (j + 1) s = (match body { s with steps := s.steps + 1 } with
    | .ok s2 => loopRun c body j s2
    | .left s2 => .ok s2
    | .err e => .err e) := by
  rw [loopRun, tick, if_pos h]
  rfl
theorem loopRun_off {c : MC} {body : PS → Out} {j : Nat} {s : PS} (h : ¬ s.steps < c.fuel) : loopRun c body (j + 1) s = .err 19 := by
  rw [loopRun, tick, if_neg h]
def OutPost (B : Nat) (L : Lay) (c : MC) (rp : List Int) (τ : Nat → Nat) (w : World) (o : Out) (lf : Bool) (w' : World) : Prop := match o with
  | .ok s' => lf = false ∧ Fine c s' ∧ RSt B L c rp τ w s' 0 w'
  | .left s' => lf = true ∧ Fine c s' ∧ RSt B L c rp τ w s' 0 w'
  | .err n => lf = false ∧ n ≠ 0 ∧ ∃ s', RSt B L c rp τ w s' n w'
def RepPost (B : Nat) (L : Lay) (c : MC) (rp : List Int) (τ : Nat → Nat) (w : World) (o : Out) (w' : World) : Prop := match o with
  | .ok s' => Fine c s' ∧ RSt B L c rp τ w s' 0 w'
  | .left s' => False
  | .err n => n ≠ 0 ∧ ∃ s', RSt B L c rp τ w s' n w'
def ExecAt (B : Nat) (L : Lay) (c : MC) (rp : List Int) (t : T) (k : Nat) : Prop :=
  ∀ (s : PS) (τ : Nat → Nat) (ov : Value) (w : World), RRep B L c rp s 0 τ ov w → Fine c s →
    Calls Try.prog 56 #[.pointer (some ⟨L.mb, 0, none⟩), .int .i64 (k : Int), .int .i64 ((k + t.size : Nat) : Int)] w fun e w' => ∃ lf, e = .returned (.bool lf) ∧ OutPost B L c rp τ w (t.run c s) lf w'
theorem RSt.from {B : Nat} {L : Lay} {c : MC} {rp : List Int} {τ0 τ : Nat → Nat} {w W W' : World} {s : PS} {er : Int} (K : Keep B τ0 τ w W) (h : RSt B L c rp τ W s er W') : RSt B L c rp τ0 w s er W' := by
  obtain ⟨τ', ov', R, K'⟩ := h
  exact ⟨τ', ov', R, K.trans K'⟩
theorem OutPost.from {B : Nat} {L : Lay} {c : MC} {rp : List Int} {τ0 τ : Nat → Nat} {w W W' : World} {o : Out} {lf : Bool} (K : Keep B τ0 τ w W) (h : OutPost B L c rp τ W o lf W') : OutPost B L c rp τ0 w o lf W' := by
  unfold OutPost at *
  cases o with
  | ok s => exact ⟨h.1, h.2.1, h.2.2.from K⟩
  | left s => exact ⟨h.1, h.2.1, h.2.2.from K⟩
  | err n => exact ⟨h.1, h.2.1, by obtain ⟨s, hs⟩ := h.2.2; exact ⟨s, hs.from K⟩⟩
def RpRel (B : Nat) (L : Lay) (c : MC) (rp : List Int) (body : PS → Out) (n : Nat) (res : Out) (τ0 : Nat → Nat) (w : World) (v : Value) (wr : World) : Prop :=
  ∃ (m : Nat) (s : PS) (er : Int) (τ : Nat → Nat) (ov : Value), v = .int .u32 (m : Int) ∧ m ≤ n ∧ RRep B L c rp s er τ ov wr ∧ Keep B τ0 τ w wr ∧ ((er = 0 ∧ Fine c s ∧ loopRun c body (n - m) s = res) ∨ (er ≠ 0 ∧ res = .err er))
theorem RpRel.err {B : Nat} {L : Lay} {c : MC} {rp : List Int} {body : PS → Out} {n : Nat} {res : Out} {τ0 : Nat → Nat} {w : World} {m : Nat} {x er : Int} {s : PS} {wr : World} (hx : x = (m : Int)) (hm : m ≤ n) (h : RSt B L c rp τ0 w s er wr) (he : er ≠ 0) (hr : res = .err er) :
    RpRel B L c rp body n res τ0 w (.int .u32 x) wr := by
  obtain ⟨τ, ov, R, K⟩ := h
  subst hx
  exact ⟨m, s, er, τ, ov, rfl, hm, R, K, .inr ⟨he, hr⟩⟩
theorem RpRel.ok {B : Nat} {L : Lay} {c : MC} {rp : List Int} {body : PS → Out} {n : Nat} {res : Out} {τ0 : Nat → Nat} {w : World} {m : Nat} {x : Int} {s : PS} {wr : World} (hx : x = (m : Int)) (hm : m ≤ n) (h : RSt B L c rp τ0 w s 0 wr) (hF : Fine c s) (hr : loopRun c body (n - m) s = res) :
    RpRel B L c rp body n res τ0 w (.int .u32 x) wr := by
  obtain ⟨τ, ov, R, K⟩ := h
  subst hx
  exact ⟨m, s, 0, τ, ov, rfl, hm, R, K, .inl ⟨rfl, hF, hr⟩⟩
theorem RpRel.retag {B : Nat} {L : Lay} {c : MC} {rp : List Int} {body : PS → Out} {n : Nat} {res : Out} {τ0 : Nat → Nat} {w : World} {v : Value} {wr : World} (h : RpRel B L c rp body n res (Proofs.Ytefdnjhhaejgbaa.retag τ0 w.heap.size) w v wr) : RpRel B L c rp body n res τ0 w v wr := by
  obtain ⟨m, s, er, τ, ov, h1, h2, h3, h4, h5⟩ := h
  exact ⟨m, s, er, τ, ov, h1, h2, h3, h4.retag, h5⟩
set_option maxRecDepth 100000 in
set_option maxHeartbeats 1000000 in
theorem repeat_any (B : Nat) (L : Lay) (c : MC) (rp : List Int) (t : T) (k q : Nat) (hq : q = k + 1 + t.size) (hk : q < c.cd.length) (H : ExecAt B L c rp t (k + 1)) (s : PS) (τ : Nat → Nat) (ov : Value) (w : World) (R : RRep B L c rp s 0 τ ov w) (F : Fine c s) (op to ra rb arg : Int) (ha : ra < 0 ∨ ra < c.regs) (harg : 0 ≤ arg ∧ arg < 4294967296) :
    Calls Try.prog 91 #[.pointer (some ⟨L.mb, 0, none⟩), .int .i64 (k : Int), .int .i64 (q : Int), .agg #[.int .i64 op, .int .i64 to, .int .i64 ra, .int .i64 rb, .int .u32 arg]] w fun e w' => e = .returned (.tuple #[]) ∧ RepPost B L c rp τ w (if arg < s.get ra then .err 18 else loopRun c (fun s => t.run c s) (s.get ra).toNat s) w' := by
  obtain ⟨n, hn⟩ : ∃ n : Nat, s.get ra = (n : Int) := ⟨(s.get ra).toNat, by have := F.got ra; unfold u32 at this; omega⟩
  have hn32 : (n : Int) < 4294967296 := by have := F.got ra; rw [hn] at this; exact this.2
  rw [hn, Int.toNat_natCast]
  obtain ⟨res, hres⟩ : ∃ res, (if arg < (n : Int) then Out.err 18 else loopRun c (fun s => t.run c s) n s) = res := ⟨_, rfl⟩
  rw [hres]
  have hkl := F.clen
  have hreg := F.regs
  have HN := Lib.hid hn
  have HRES := Lib.hid hres
  have HF := Lib.hid F
  have HR := Lib.hid R
  have HB := Lib.hid R.hB
  have HH := Lib.hid (show ∀ (s : PS) (τ : Nat → Nat) (ov : Value) (w : World), RRep B L c rp s 0 τ ov w → Fine c s → Calls Try.prog 56 #[.pointer (some ⟨L.mb, 0, none⟩), .int .i64 ((k : Int) + 1), .int .i64 (q : Int)] w fun e w' => ∃ lf, e = .returned (.bool lf) ∧ OutPost B L c rp τ w (t.run c s) lf w' from fun s τ ov w r f => by have := H s τ ov w r f; rw [hq]; exact this)
  have hq1 : (k : Int) + 1 ≤ (q : Int) ∧ (q : Int) < 16384 := by omega
  have hlm := R.mac.lt
  clear hn hres F H R hq
  go_enter Try.func91, Try.ntmps91
  go_upto_region 1 with (fail)
  refine wp_gen (fun W => Below w.heap.size w W ∧ Blk W w.heap.size [.int .i64 op, .int .i64 to, .int .i64 ra, .int .i64 rb, .int .u32 arg] 61) ⟨(Below.refl _ _).alloc (Nat.le_refl _) _, heap_new1 _ _⟩ ?_
  rintro W ⟨hb, kb⟩
  have b2 : W.cell? ⟨w.heap.size, 2, none⟩ = some (.int .i64 ra) := kb.cell 2
  have b4 : W.cell? ⟨w.heap.size, 4, none⟩ = some (.int .u32 arg) := kb.cell 4
  have hlw : w.heap.size < W.heap.size := kb.lt
  have HR2 := Lib.hid (HR.out.retag.below hb)
  have HK := Lib.hid (show Keep B (retag τ w.heap.size) (retag τ w.heap.size) w W from Keep.below hb HB.out)
  clear hb kb
  have HRD := Lib.hid (rread_any B L c rp s 0 (retag τ w.heap.size) ov W HR2.out ra (by rw [hreg]; exact ha))
  have HNI := Lib.hid (show 0 ≤ (n : Int) from by omega)
  go_wp2_with fail
  refine HRD.out.mono ?_
  rintro e W' ⟨rfl, rfl⟩
  rw [HN.out]
  by_cases hgt : arg < (n : Int)
  · have HRES2 := Lib.hid (show res = .err 18 by rw [← HRES.out, if_pos hgt])
    have qg : decide (arg < (n : Int)) = true := by simpa using hgt
    have f14 := HR2.out.mac.frozen 14
    have lm := HR2.out.mac.lt
    have c14 : W'.cell? ⟨L.mb, 14, none⟩ = some (.int .i64 0) := HR2.out.mac.cell 14
    go_wp2
    refine bodyPost_ret (results_none rfl _ _ _) rfl ?_
    refine ⟨rfl, ?_⟩
    rw [HRES2.out]
    refine ⟨by decide, s, ?_⟩
    exact ⟨_, ov, HR2.out.setErr _, (HK.out.trans (Keep.set HR2.out.bm (by rw [HR2.out.tm]; omega))).retag⟩
  · have HRES2 := Lib.hid (show loopRun c (fun s => t.run c s) n s = res by rw [← HRES.out, if_neg hgt])
    have qg : decide (arg < (n : Int)) = false := by simpa using hgt
    have HST := Lib.hid (show RpRel B L c rp (fun s => t.run c s) n res (retag τ w.heap.size) w (.int .u32 0) W' from ⟨0, s, 0, _, ov, rfl, Nat.zero_le _, HR2.out, HK.out, .inl ⟨rfl, HF.out, HRES2.out⟩⟩)
    clear b2
    go_wp2_with fail
    go_loopw [9] (fun m wr => RpRel B L c rp (fun s => t.run c s) n res (retag τ w.heap.size) w m wr) (fun m _ => n - (intOf m).toNat)
    case atStart => exact HST.out
    case round =>
      obtain ⟨m, s1, er, τ1, ov1, rfl, hmn, R1, K1, hcase⟩ := hrel
      have c14 : wr.cell? ⟨L.mb, 14, none⟩ = some (.int .i64 er) := R1.mac.cell 14
      have lm := R1.mac.lt
      have hmI : (0 : Int) ≤ (m : Int) ∧ (m : Int) ≤ (n : Int) := by omega
      have HR1 := Lib.hid R1
      have HK1 := Lib.hid K1
      clear R1 K1 HST b4
      rcases hcase with ⟨rfl, F1, hrun⟩ | ⟨hne, hre⟩
      · by_cases hlt : m < n
        · have qlt : decide ((m : Int) < (n : Int)) = true := by simp; omega
          have hm1 : (m : Int) + 1 < 4294967296 := by omega
          have hw1 : IntKind.u32.wrap ((m : Int) + 1) = ((m + 1 : Nat) : Int) := by rw [IntKind.wrap_u32]; omega
          obtain ⟨j, hj⟩ : ∃ j, n - m = j + 1 := ⟨n - m - 1, by omega⟩
          have hj' : n - (m + 1) = j := by omega
          rw [hj] at hrun
          have HJ := Lib.hid hj'
          have HF1 := Lib.hid F1
          have HRU := Lib.hid hrun
          clear hrun F1 hj hj'
          go_wp2_with fail
          refine (rstep_any B L c rp s1 τ1 ov1 wr HR1.out HF1.out.st0 HF1.out.fu).mono ?_
          rintro e X ⟨rfl, hX⟩
          clear c14 lm
          by_cases hst : s1.steps < c.fuel
          · rw [show tickPost c s1 = ({ s1 with steps := s1.steps + 1 }, 0) by unfold tickPost tick; rw [if_pos hst]] at hX
            obtain ⟨τ2, ov2, R2, K2⟩ := hX
            have c14 : X.cell? ⟨L.mb, 14, none⟩ = some (.int .i64 0) := R2.mac.cell 14
            have lm := R2.mac.lt
            have HR2' := Lib.hid R2
            have HK2 := Lib.hid (HK1.out.trans K2)
            have hrun := HRU.out
            rw [loopRun_on hst] at hrun
            have HRU2 := Lib.hid hrun
            have HC := Lib.hid (HH.out _ τ2 ov2 X R2 (HF1.out.tick hst))
            clear R2 K2 hrun HRU
            go_wp2_with fail
            refine HC.out.mono ?_
            rintro e Y ⟨lf, rfl, hY⟩
            clear c14 lm
            have hrun := HRU2.out
            obtain ⟨o, ho⟩ : ∃ o, t.run c { s1 with steps := s1.steps + 1 } = o := ⟨_, rfl⟩
            rw [ho] at hY hrun
            cases o with
            | ok s3 =>
              obtain ⟨rfl, F3, h3⟩ := hY
              have HX := Lib.hid (show RpRel B L c rp (fun s => t.run c s) n res (retag τ w.heap.size) w (.int .u32 ((m + 1 : Nat) : Int)) Y from RpRel.ok rfl (by omega) (h3.from HK2.out) F3 (by rw [HJ.out]; exact hrun))
              clear hrun h3 F3 ho
              go_wp2
              go_roundw
              case rel => first | exact HX.out | (rw [hw1]; exact HX.out)
              case measure => first | (simp [intOf]; omega) | (rw [hw1]; simp [intOf]; omega)
            | left s3 =>
              obtain ⟨rfl, F3, h3⟩ := hY
              have HX := Lib.hid (show RepPost B L c rp τ w res Y by rw [← hrun]; exact ⟨F3, by obtain ⟨a1, a2, a3, a4⟩ := h3.from HK2.out; exact ⟨a1, a2, a3, a4.retag⟩⟩)
              clear hrun h3 F3 ho
              go_wp2
              refine bodyPost_ret (results_none rfl _ _ _) rfl ?_
              exact ⟨rfl, HX.out⟩
            | err x =>
              obtain ⟨rfl, hx, s3, h3⟩ := hY
              have HX := Lib.hid (show RpRel B L c rp (fun s => t.run c s) n res (retag τ w.heap.size) w (.int .u32 ((m + 1 : Nat) : Int)) Y from RpRel.err rfl (by omega) (h3.from HK2.out) hx hrun.symm)
              clear hrun h3 ho
              go_wp2
              go_roundw
              case rel => first | exact HX.out | (rw [hw1]; exact HX.out)
              case measure => first | (simp [intOf]; omega) | (rw [hw1]; simp [intOf]; omega)
          · rw [show tickPost c s1 = (s1, 19) by unfold tickPost tick; rw [if_neg hst]] at hX
            have hrun := HRU.out
            rw [loopRun_off hst] at hrun
            have c14 : X.cell? ⟨L.mb, 14, none⟩ = some (.int .i64 19) := by obtain ⟨τ2, ov2, R2, K2⟩ := hX; exact R2.mac.cell 14
            have lm : L.mb < X.heap.size := by obtain ⟨τ2, ov2, R2, K2⟩ := hX; exact R2.mac.lt
            have HX := Lib.hid (show RpRel B L c rp (fun s => t.run c s) n res (retag τ w.heap.size) w (.int .u32 ((m + 1 : Nat) : Int)) X from RpRel.err rfl (by omega) (hX.from HK1.out) (by show (19 : Int) ≠ 0; decide) hrun.symm)
            clear hrun hX HRU
            go_wp2
            go_roundw
            case rel => first | exact HX.out | (rw [hw1]; exact HX.out)
            case measure => first | (simp [intOf]; omega) | (rw [hw1]; simp [intOf]; omega)
        · have qlt : decide ((m : Int) < (n : Int)) = false := by simp; omega
          have hmn' : n - m = 0 := by omega
          rw [hmn'] at hrun
          have HX := Lib.hid (show RepPost B L c rp τ w res wr by rw [← hrun]; exact ⟨F1, ⟨_, ov1, HR1.out, HK1.out.retag⟩⟩)
          clear hrun F1
          go_wp2
          refine bodyPost_end (results_none rfl _ _ _) rfl ?_
          exact ⟨rfl, HX.out⟩
      · have qne : (er == 0) = false := by simpa using hne
        have HX := Lib.hid (show RepPost B L c rp τ w res wr by rw [hre]; exact ⟨hne, s1, ⟨_, ov1, HR1.out, HK1.out.retag⟩⟩)
        by_cases hlt : m < n
        · have qlt : decide ((m : Int) < (n : Int)) = true := by simp; omega
          go_wp2
          refine bodyPost_end (results_none rfl _ _ _) rfl ?_
          exact ⟨rfl, HX.out⟩
        · have qlt : decide ((m : Int) < (n : Int)) = false := by simp; omega
          go_wp2
          refine bodyPost_end (results_none rfl _ _ _) rfl ?_
          exact ⟨rfl, HX.out⟩
end Go.Proofs.Ytefdnjhhaejgbaa
