/- A part of the proof of MachineFeeds: Aw. No condition. -/
import Derived.Lib.SlBytesRow
import Derived.Test.YtefdnjhhaejgbaaGf25
import Derived.Test.YtefdnjhhaejgbaaGf31
import Derived.Test.YtefdnjhhaejgbaaGf12
set_option linter.unusedSimpArgs false
set_option linter.unusedVariables false
namespace Go.Proofs.Ytefdnjhhaejgbaa
open Go.RowKit
set_option linter.unusedVariables false
theorem instr_rel (w0 : World) (o t x y z : Int) (w : World) (h : Below w0.heap.size w0 w) :
    Calls Try.prog 22 #[.int .i64 o, .int .i64 t, .int .i64 x, .int .i64 y, .int .u32 z] w fun e w' => e = .returned (.agg #[.int .i64 o, .int .i64 t, .int .i64 x, .int .i64 y, .int .u32 z]) ∧ Below w0.heap.size w0 w' :=
  (instr_any o t x y z w).mono fun e w' ⟨h1, h2, _⟩ => ⟨h1, h.trans (h2.mono h.size)⟩
def riCells (cd : List RI) : List Value := cd.flatMap RI.cells
theorem riCells_get : ∀ (cd : List RI) (i j : Nat), i < cd.length → j < 5 → (riCells cd)[i * 5 + j]? = some ((cd.getD i default).cell j)
  | [], i, j, h, _ => by simp at h
  | x :: cd, 0, j, h, hj => by
    have : j = 0 ∨ j = 1 ∨ j = 2 ∨ j = 3 ∨ j = 4 := by omega
    rcases this with rfl | rfl | rfl | rfl | rfl <;> rfl
  | x :: cd, i + 1, j, h, hj => by
    have e : (i + 1) * 5 + j = i * 5 + j + 5 := by omega
    rw [e]
    have h2 := riCells_get cd i j (by simpa using h) hj
    show (RI.cells x ++ riCells cd)[i * 5 + j + 5]? = _
    rw [List.getElem?_append_right (by simp [RI.cells])]
    simpa [RI.cells] using h2
theorem Blk.code {w : World} {b : Nat} {cd : List RI} {t : TypeId} {x : List Value} (h : Blk w b (riCells cd ++ x) t) : RowB w.heap.size w 5 (some ⟨b, 0, none⟩) cd.length fun i j => (cd.getD i default).cell j := by
  intro i hi
  refine ⟨b, 0, rfl, h.lt, fun j hj => ?_⟩
  have hl : (riCells cd).length = cd.length * 5 := by
    clear h hi
    induction cd with
    | nil => rfl
    | cons x cd ih => simp only [riCells, List.flatMap_cons, List.length_append, List.length_cons] at *; simp [RI.cells] at *; omega
  rw [Nat.zero_add, h.cell, List.getElem?_append_left (by omega), riCells_get cd i j hi hj]
theorem row_none (B : Nat) (w : World) (size : Nat) (a : Option Addr) (f : Nat → Nat → Value) : RowB B w size a 0 f := fun i hi => by omega
theorem MemVal.parts {w : World} {arr : List (List Int)} {ctx : List Int} {a b : Option Addr} {n c m d : Nat} (h : MemVal w arr ctx (.agg #[.slice a n c, .slice b m d])) : GridAt w a arr ∧ NumsAt w b ctx := by
  obtain ⟨qa, cq, ca, cc, e, h1, h2⟩ := h
  simp only [Value.agg.injEq, Array.mk.injEq, List.cons.injEq, Value.slice.injEq, and_true] at e
  obtain ⟨⟨rfl, _⟩, rfl, _⟩ := e
  exact ⟨h1, h2⟩
theorem RunVal.grid {w : World} {s : PS} {a b o : Option Addr} {n c m d l x : Nat} {st : Int} (h : RunVal w s (.agg #[.slice a n c, .slice b m d, .slice o l x, .int .i64 st])) : GridAt w a s.arr := by
  obtain ⟨qa, cq, ca, cc, oa, oc, e, h1, _⟩ := h
  simp only [Value.agg.injEq, Array.mk.injEq, List.cons.injEq, Value.slice.injEq, and_true] at e
  obtain ⟨⟨rfl, _⟩, _⟩ := e
  exact h1
set_option maxRecDepth 100000 in
set_option maxHeartbeats 1000000 in
theorem awake_true (w : World) : Calls Try.prog 10 #[] w fun e w' => e = .returned (.bool true) ∧ Below w.heap.size w w' := by
  have hb0 : Below w.heap.size w w := Below.refl _ _
  go_enter Try.func10, Try.ntmps10
  go_upto_region 2 with (go_at_call 22; refine (instr_rel w _ _ _ _ _ _ (by assumption)).mono ?_; rintro e w9 ⟨rfl, hb9⟩)
  refine wp_gen (fun W => Below w.heap.size w W ∧ Blk W w9.heap.size (riCells cd1 ++ []) 61 ∧ Blk W (w9.heap.size + 1) [.slice none 0 0, .int .i64 1, .int .i64 0, .slice (some ⟨w9.heap.size, 0, none⟩) 4 4] 25) ?_ ?_
  · refine ⟨(hb9.alloc hb9.size _).alloc (by have := hb9.size; simp; omega) _, ?_, heap_new2 _ _ _⟩
    unfold Blk
    rw [Below.heap_alloc _ _ _ (by simp)]
    exact heap_new1 _ _
  rintro W1 ⟨hb1, kc1, ks1⟩
  have hN : w.heap.size ≤ w9.heap.size := hb9.size
  clear hb9 hb0
  have sl1 := ks1.lt
  have a0 : W1.cell? ⟨w9.heap.size + 1, 0, none⟩ = some (.slice none 0 0) := ks1.cell 0
  have a1 : W1.cell? ⟨w9.heap.size + 1, 0 + 1, none⟩ = some (.int .i64 1) := ks1.cell 1
  have a2 : W1.cell? ⟨w9.heap.size + 1, 0 + 1 + 1, none⟩ = some (.int .i64 0) := ks1.cell 2
  have a3 : W1.cell? ⟨w9.heap.size + 1, 0 + 1 + 1 + 1, none⟩ = some (.slice (some ⟨w9.heap.size, 0, none⟩) 4 4) := ks1.cell 3
  have HS1 := Lib.hid (Start_any none (some ⟨w9.heap.size, 0, none⟩) 0 4 [] 1 0 cd1 W1 (row_none _ _ _ _ _) kc1.code (by simp) (by decide) (by decide))
  have HK1 := Lib.hid (And.intro hb1 (And.intro kc1 ks1))
  clear hb1 kc1 ks1
  go_wp2_with fail
  refine HS1.out.mono ?_
  rintro e Y1 ⟨hbY, hst⟩
  rw [if_pos (by rw [chk1])] at hst
  obtain ⟨v, rfl, hmv⟩ := hst
  obtain ⟨qa, cq, ca, cc, rfl, hg, hx⟩ := hmv Y1 (fun _ _ => rfl)
  clear hmv
  have HM1 := Lib.hid (And.intro hbY (And.intro hg hx))
  have hY1 := hbY.size
  clear hbY hg hx a0 a1 a2 a3
  simp only [zeros, List.map_nil, List.length_nil, List.length_replicate]
  go_upto_region 3 with (fail)
  refine wp_gen (fun W => Below W1.heap.size W1 W ∧ Blk W Y1.heap.size [.slice qa 0 cq, .slice ca 16 cc] 31 ∧ NumsAt W ca z16 ∧ Y1.heap.size < W.heap.size) ?_ ?_
  · have hbb : Below Y1.heap.size Y1 (Y1.alloc (.cells #[.slice qa 0 cq, .slice ca 16 cc] 31)) := (Below.refl _ _).alloc (Nat.le_refl _) _
    exact ⟨HM1.out.1.trans (hbb.mono HM1.out.1.size), heap_new1 _ _, HM1.out.2.2.below hbb, by simp⟩
  rintro W2 ⟨hb2, km2, hx2, hl2⟩
  have ks2 := HK1.out.2.2.below hb2 sl1
  have kc2 := HK1.out.2.1.below hb2 (by omega)
  have sl2 : w9.heap.size + 1 < W2.heap.size := ks2.lt
  have a0 : W2.cell? ⟨w9.heap.size + 1, 0, none⟩ = some (.slice none 0 0) := ks2.cell 0
  have a1 : W2.cell? ⟨w9.heap.size + 1, 0 + 1, none⟩ = some (.int .i64 1) := ks2.cell 1
  have a2 : W2.cell? ⟨w9.heap.size + 1, 0 + 1 + 1, none⟩ = some (.int .i64 0) := ks2.cell 2
  have a3 : W2.cell? ⟨w9.heap.size + 1, 0 + 1 + 1 + 1, none⟩ = some (.slice (some ⟨w9.heap.size, 0, none⟩) 4 4) := ks2.cell 3
  have m0 : W2.cell? ⟨Y1.heap.size, 0, none⟩ = some (.slice qa 0 cq) := km2.cell 0
  have m1 : W2.cell? ⟨Y1.heap.size, 0 + 1, none⟩ = some (.slice ca 16 cc) := km2.cell 1
  have z32 : u32s z16 := fun x hx => by rw [List.eq_of_mem_replicate hx]; omega
  have HR1 := Lib.hid (Run_is none (some ⟨w9.heap.size, 0, none⟩) qa ca 0 4 cq cc [] 1 0 cd1 [] z16 0 false 8 W2 (row_none _ _ _ _ _) kc2.code (fun k hk => by simp at hk) hx2.row (by simp) (by decide) (by decide) (fun a ha => by cases ha) (fun a ha => by cases ha) z32 (by unfold u32; omega))
  have HK2 := Lib.hid (And.intro (HK1.out.1.trans (hb2.mono (by have := HK1.out.1.size; omega))) (And.intro kc2 (And.intro ks2 (And.intro km2 hx2))))
  clear hb2 km2 hx2 ks2 kc2 HS1 HM1 z32
  go_wp2_with fail
  refine HR1.out.mono ?_
  rintro e Y2 ⟨hbY, hst⟩
  rw [run1] at hst
  obtain ⟨v, rfl, hv⟩ := hst
  obtain ⟨qb, cqb, cb, ccb, ob, ocb, rfl, hgb, hxb, hob⟩ := hv Y2 (fun _ _ => rfl) rfl
  have HM2 := Lib.hid (And.intro hbY hob)
  have hY2 := hbY.size
  clear hbY hv hgb hxb hob a0 a1 a2 a3 m0 m1
  simp only [z16, List.length_nil, List.length_replicate, List.length_cons]
  go_upto_region 4 with (fail)
  refine wp_gen (fun W => Below W2.heap.size W2 W ∧ Blk W Y2.heap.size [.slice qb 0 cqb, .slice cb 16 ccb, .slice ob 3 ocb, .int .i64 8] 49 ∧ RowB W.heap.size W 1 ob 3 (fun j _ => .int .u8 (([3, 3, 3] : List Int).getD j 0))) ?_ ?_
  · have hbb : Below Y2.heap.size Y2 (Y2.alloc (.cells #[.slice qb 0 cqb, .slice cb 16 ccb, .slice ob 3 ocb, .int .i64 8] 49)) := (Below.refl _ _).alloc (Nat.le_refl _) _
    exact ⟨HM2.out.1.trans (hbb.mono HM2.out.1.size), heap_new1 _ _, (HM2.out.2.below hbb).mono hbb.size⟩
  rintro W3 ⟨hb3, kr3, ho3⟩
  obtain ⟨hw2, kc2, ks2, km2, hx2⟩ := HK2.out
  have ks3 := ks2.below hb3 sl2
  have kc3 := kc2.below hb3 (by omega)
  have a0 : W3.cell? ⟨w9.heap.size + 1, 0, none⟩ = some (.slice none 0 0) := ks3.cell 0
  have a1 : W3.cell? ⟨w9.heap.size + 1, 0 + 1, none⟩ = some (.int .i64 1) := ks3.cell 1
  have a2 : W3.cell? ⟨w9.heap.size + 1, 0 + 1 + 1, none⟩ = some (.int .i64 0) := ks3.cell 2
  have a3 : W3.cell? ⟨w9.heap.size + 1, 0 + 1 + 1 + 1, none⟩ = some (.slice (some ⟨w9.heap.size, 0, none⟩) 4 4) := ks3.cell 3
  have HB1 := Lib.hid (Bound_any none (some ⟨w9.heap.size, 0, none⟩) 0 4 [] 1 0 cd1 t1 W3 (row_none _ _ _ _ _) kc3.code (by simp) (by decide) (by decide) (fun _ => ⟨t1_flat, t1_wf⟩))
  have hw3 : Below w.heap.size w W3 := hw2.trans (hb3.mono hw2.size)
  have sl3 : w9.heap.size + 1 < W3.heap.size := ks3.lt
  have HK3 := Lib.hid (And.intro hw3 (And.intro kc3 (And.intro ks3 (And.intro (km2.below hb3 hl2) (And.intro (hx2.below hb3) (And.intro kr3 ho3))))))
  have hl3 : Y1.heap.size < W3.heap.size := by have := hb3.size; omega
  have hr3 := kr3.lt
  clear hb3 kr3 ho3 hw2 kc2 ks2 km2 hx2 ks3 kc3 HR1 HM2 HK2 hw3 HK1
  go_wp2_with fail
  refine HB1.out.mono ?_
  rintro e Y3 ⟨he, hbY⟩
  rw [bound1] at he
  subst he
  obtain ⟨hw3, kc3, ks3, km3, hx3, kr3, ho3⟩ := HK3.out
  have ks4 := ks3.below hbY sl3
  have kc4 := kc3.below hbY (by omega)
  have b0 : Y3.cell? ⟨w9.heap.size + 1, 0, none⟩ = some (.slice none 0 0) := ks4.cell 0
  have b1 : Y3.cell? ⟨w9.heap.size + 1, 0 + 1, none⟩ = some (.int .i64 1) := ks4.cell 1
  have b2 : Y3.cell? ⟨w9.heap.size + 1, 0 + 1 + 1, none⟩ = some (.int .i64 0) := ks4.cell 2
  have b3 : Y3.cell? ⟨w9.heap.size + 1, 0 + 1 + 1 + 1, none⟩ = some (.slice (some ⟨w9.heap.size, 0, none⟩) 4 4) := ks4.cell 3
  have HC := Lib.hid (copy_code w9.heap.size 0 4 4 1 0 (riCells cd1) Y3 rfl (by omega) (by omega) (fun j u hu => by
      rw [Nat.zero_add, kc4.cell, List.append_nil]; exact hu) (by decide) kc4.lt)
  have hw4 : Below w.heap.size w Y3 := hw3.trans (hbY.mono hw3.size)
  have HK4 := Lib.hid (And.intro hw4 (And.intro (km3.below hbY hl3) (And.intro (hx3.below hbY) (And.intro (kr3.below hbY hr3) ((ho3.below hbY).mono hbY.size)))))
  have hs4 := hbY.size
  clear hw3 kc3 ks3 km3 hx3 kr3 ho3 ks4 kc4 hw4 hbY a0 a1 a2 a3 HK3
  go_wp2_with fail
  refine HC.out.mono ?_
  rintro e Y4 ⟨g0, g, cg, tt, rfl, hcg, hgl, hbY⟩
  have HM4 := Lib.hid (And.intro hbY hcg)
  have hs5 := hbY.size
  clear hbY hcg b0 b1 b2 b3
  go_upto_region 6 with (fail)
  refine wp_gen (fun W => Below Y3.heap.size Y3 W ∧ Blk W Y4.heap.size [.slice (some ⟨g0, 0, none⟩) 0 0, .int .i64 1, .int .i64 0, .slice (some ⟨g, 0, none⟩) 4 cg] 25 ∧ Blk W g (riCells cd1 ++ tt) 61 ∧ g ≠ Y4.heap.size) ?_ ?_
  · have hbb : Below Y4.heap.size Y4 (Y4.alloc (.cells #[.slice (some ⟨g0, 0, none⟩) 0 0, .int .i64 1, .int .i64 0, .slice (some ⟨g, 0, none⟩) 4 cg] 25)) := (Below.refl _ _).alloc (Nat.le_refl _) _
    exact ⟨HM4.out.1.trans (hbb.mono HM4.out.1.size), heap_new1 _ _, HM4.out.2.below hbb HM4.out.2.lt, by have := HM4.out.2.lt; omega⟩
  rintro W5 ⟨hb5, ks5, kg5, hne5⟩
  have s3 : W5.cell? ⟨Y4.heap.size, 3, none⟩ = some (.slice (some ⟨g, 0, none⟩) 4 cg) := ks5.cell 3
  have c9 : W5.cell? ⟨g, 9, none⟩ = some (.int .u32 4) := kg5.cell 9
  have z9 := kg5.frozen 9
  have hg6 : Blk (W5.setCell ⟨g, 9, none⟩ (.int .u32 2)) g (riCells cd1' ++ tt) 61 := kg5.set 9 (.int .u32 2)
  have hs6 := ks5.other (a := ⟨g, 9, none⟩) (Ne.symm hne5) (.int .u32 2)
  have hb6 : Below Y3.heap.size Y3 (W5.setCell ⟨g, 9, none⟩ (.int .u32 2)) := hb5.setCell hgl _
  have HW5 := Lib.hid (And.intro hb6 (And.intro hs6 hg6))
  clear hb5 ks5 kg5 hg6 hs6 hb6
  go_upto_region 7 with (fail)
  refine wp_gen (fun W => Below Y3.heap.size Y3 W ∧ Blk W Y4.heap.size [.slice (some ⟨g0, 0, none⟩) 0 0, .int .i64 1, .int .i64 0, .slice (some ⟨g, 0, none⟩) 4 cg] 25 ∧ Blk W g (riCells cd1' ++ tt) 61) HW5.out ?_
  rintro W6 ⟨hb6, ks6, kg6⟩
  obtain ⟨hw4, km4, hx4, kr4, ho4⟩ := HK4.out
  have km6 := km4.below hb6 (by omega)
  have hx6 := hx4.below hb6
  have a0 : W6.cell? ⟨Y4.heap.size, 0, none⟩ = some (.slice (some ⟨g0, 0, none⟩) 0 0) := ks6.cell 0
  have a1 : W6.cell? ⟨Y4.heap.size, 0 + 1, none⟩ = some (.int .i64 1) := ks6.cell 1
  have a2 : W6.cell? ⟨Y4.heap.size, 0 + 1 + 1, none⟩ = some (.int .i64 0) := ks6.cell 2
  have a3 : W6.cell? ⟨Y4.heap.size, 0 + 1 + 1 + 1, none⟩ = some (.slice (some ⟨g, 0, none⟩) 4 cg) := ks6.cell 3
  have m0 : W6.cell? ⟨Y1.heap.size, 0, none⟩ = some (.slice qa 0 cq) := km6.cell 0
  have m1 : W6.cell? ⟨Y1.heap.size, 0 + 1, none⟩ = some (.slice ca 16 cc) := km6.cell 1
  have z32 : u32s z16 := fun x hx => by rw [List.eq_of_mem_replicate hx]; omega
  have HR2 := Lib.hid (Run_is (some ⟨g0, 0, none⟩) (some ⟨g, 0, none⟩) qa ca 0 cg cq cc [] 1 0 cd1' [] z16 0 false 8 W6 (row_none _ _ _ _ _) kg6.code (fun k hk => by simp at hk) hx6.row (by simp) (by decide) (by decide) (fun a ha => by cases ha) (fun a ha => by cases ha) z32 (by unfold u32; omega))
  have HK6 := Lib.hid (And.intro (hw4.trans (hb6.mono hw4.size)) (And.intro km6 (And.intro (kr4.below hb6 (by omega)) ((ho4.below hb6).mono hb6.size))))
  have hs6 := hb6.size
  clear HW5 hb6 ks6 kg6 hw4 km4 hx4 kr4 ho4 km6 hx6 z32 HK4 HM4 HC HB1 c9 z9 s3
  go_wp2_with fail
  refine HR2.out.mono ?_
  rintro e Y5 ⟨hbY, hst⟩
  rw [run1'] at hst
  replace hst : e = .returned (.tuple #[.agg #[.slice none 0 0, .slice none 0 0, .slice none 0 0, .int .i64 0], .int .i64 18]) := hst
  subst hst
  have HM5 := Lib.hid hbY
  have hs7 := hbY.size
  clear hbY a0 a1 a2 a3 m0 m1
  go_upto_region 8 with (fail)
  refine wp_gen (fun W => Below W6.heap.size W6 W) (HM5.out.alloc HM5.out.size _) ?_
  intro W7 hb7
  obtain ⟨hw6, km6, kr6, ho6⟩ := HK6.out
  have kr7 := kr6.below hb7 kr6.lt
  have ho7 := (ho6.below hb7).mono hb7.size
  have r1 : W7.cell? ⟨Y2.heap.size, 2, none⟩ = some (.slice ob 3 ocb) := kr7.cell 2
  have r2 : W7.cell? ⟨Y2.heap.size, 3, none⟩ = some (.int .i64 8) := kr7.cell 3
  obtain ⟨o1, o2, rfl, ho1, ho2⟩ := ho7 0 (by omega)
  have HK7 := Lib.hid (And.intro (hw6.trans (hb7.mono hw6.size)) (And.intro (km6.below hb7 km6.lt) (And.intro kr7 ho7)))
  clear hb7 hw6 km6 kr6 ho6 kr7 ho7 HK6 HM5 HR2
  have hcv : (convert 47 9 (.slice (some ⟨o1, o2, none⟩) 3 ocb)).run Try.prog W7 = .ok (.string ⟨#[3, 3, 3]⟩) W7 := by
    have h := run_convert_bytes_arg (P := Try.prog) W7 47 5 Try.underlying47 Try.underlying5 o1 o2 3 ocb [3, 3, 3] rfl (fun i hi => by
      obtain ⟨p1, p2, hp, _, hq⟩ := HK7.out.2.2.2 i hi
      simp only [Option.some.injEq, Addr.mk.injEq] at hp
      obtain ⟨rfl, rfl, _⟩ := hp
      have := hq 0 (by omega)
      simpa using this) 9 Try.underlying9
    rw [h]
    rfl
  go_upto_region 10 with (fail)
  clear hcv r1 r2
  have hX : Below (W7.alloc (.cells #[.bool false, .int .i64 2] 59)).heap.size (W7.alloc (.cells #[.bool false, .int .i64 2] 59)) (W7.alloc (.cells #[.bool false, .int .i64 2] 59)) := Below.refl _ _
  go_upto_region 11 with (go_at_call 22; refine (instr_rel (W7.alloc (.cells #[.bool false, .int .i64 2] 59)) _ _ _ _ _ _ (by assumption)).mono ?_; rintro e w8 ⟨rfl, hb8⟩)
  refine wp_gen (fun W => Below W7.heap.size W7 W ∧ Blk W W7.heap.size [.bool false, .int .i64 2] 59 ∧ Blk W w8.heap.size (riCells cd2 ++ []) 61 ∧ Blk W (w8.heap.size + 1) [.slice (some ⟨W7.heap.size, 0, none⟩) 1 1, .int .i64 2, .int .i64 0, .slice (some ⟨w8.heap.size, 0, none⟩) 3 3] 25 ∧ W7.heap.size < w8.heap.size) ?_ ?_
  · have hs8 := hb8.size
    simp at hs8
    have hb7 : Below W7.heap.size W7 (W7.alloc (.cells #[.bool false, .int .i64 2] 59)) := (Below.refl _ _).alloc (Nat.le_refl _) _
    have hb9 := hb7.trans (hb8.mono (by simp))
    refine ⟨(hb9.alloc (by omega) _).alloc (by simp; omega) _, ?_, ?_, heap_new2 _ _ _, by omega⟩
    · unfold Blk
      rw [Below.heap_alloc _ _ _ (by simp; omega), Below.heap_alloc _ _ _ (by omega), hb8.block _ (by simp)]
      exact heap_new1 _ _
    · unfold Blk
      rw [Below.heap_alloc _ _ _ (by simp)]
      exact heap_new1 _ _
  rintro W8 ⟨hb8', ka8, kc8, ks8, hl8⟩
  clear hb8 hX
  have a0 : W8.cell? ⟨w8.heap.size + 1, 0, none⟩ = some (.slice (some ⟨W7.heap.size, 0, none⟩) 1 1) := ks8.cell 0
  have a1 : W8.cell? ⟨w8.heap.size + 1, 0 + 1, none⟩ = some (.int .i64 2) := ks8.cell 1
  have a2 : W8.cell? ⟨w8.heap.size + 1, 0 + 1 + 1, none⟩ = some (.int .i64 0) := ks8.cell 2
  have a3 : W8.cell? ⟨w8.heap.size + 1, 0 + 1 + 1 + 1, none⟩ = some (.slice (some ⟨w8.heap.size, 0, none⟩) 3 3) := ks8.cell 3
  have har : RowB W8.heap.size W8 2 (some ⟨W7.heap.size, 0, none⟩) [(⟨false, 2⟩ : Ar)].length fun i j => ([(⟨false, 2⟩ : Ar)].getD i default).cell j := by
    intro i hi
    refine ⟨W7.heap.size, 0, rfl, ka8.lt, fun j hj => ?_⟩
    have hi0 : i = 0 := by simpa using hi
    subst hi0
    have hj2 : j = 0 ∨ j = 1 := by omega
    rcases hj2 with rfl | rfl
    · exact ka8.cell 0
    · exact ka8.cell 1
  have HS2 := Lib.hid (Start_any (some ⟨W7.heap.size, 0, none⟩) (some ⟨w8.heap.size, 0, none⟩) 1 3 [⟨false, 2⟩] 2 0 cd2 W8 har kc8.code (by simp) (by decide) (by decide))
  obtain ⟨hw7, km7, kr7, _⟩ := HK7.out
  have HK8 := Lib.hid (And.intro (hw7.trans (hb8'.mono hw7.size)) (And.intro (km7.below hb8' km7.lt) (And.intro (kr7.below hb8' kr7.lt) (And.intro ka8 (And.intro kc8 (And.intro ks8 har))))))
  have hm7 := km7.lt
  have hr7 := kr7.lt
  have hs8 := hb8'.size
  clear hb8' ka8 kc8 ks8 hw7 km7 kr7 har HK7
  go_wp2_with fail
  refine HS2.out.mono ?_
  rintro e Y6 ⟨hbY, hst⟩
  rw [if_pos (by rw [chk2])] at hst
  obtain ⟨v, rfl, hmv⟩ := hst
  obtain ⟨qc, cqc, cc2, ccc, hvv, _, _⟩ := hmv Y6 (fun _ _ => rfl)
  subst hvv
  have HMV := Lib.hid hmv
  clear hmv
  obtain ⟨hw8, km8, kr8, ka8, kc8, ks8, har⟩ := HK8.out
  have km9 := km8.below hbY km8.lt
  have m0 : Y6.cell? ⟨Y1.heap.size, 0, none⟩ = some (.slice qa 0 cq) := km9.cell 0
  have m1 : Y6.cell? ⟨Y1.heap.size, 0 + 1, none⟩ = some (.slice ca 16 cc) := km9.cell 1
  have z0 := km9.frozen 0
  have z1 := km9.frozen (0 + 1)
  simp only [zeros, List.map_cons, List.map_nil, List.length_nil, List.length_replicate, List.length_cons]
  clear a0 a1 a2 a3
  go_upto_region 12 with (fail)
  refine wp_gen (fun W => Below w.heap.size w W ∧ Blk W Y1.heap.size [.slice qc 1 cqc, .slice cc2 16 ccc] 31 ∧ (∃ l, Blk W Y2.heap.size [.slice qb 0 cqb, .slice cb 16 ccb, l, .int .i64 8] 49 ∧ ∃ x y z, l = .slice x y z) ∧ Blk W w8.heap.size (riCells cd2 ++ []) 61 ∧
      Blk W (w8.heap.size + 1) [.slice (some ⟨W7.heap.size, 0, none⟩) 1 1, .int .i64 2, .int .i64 0, .slice (some ⟨w8.heap.size, 0, none⟩) 3 3] 25 ∧ Blk W W7.heap.size [.bool false, .int .i64 2] 59 ∧ MemVal W [[0, 0]] z16 (.agg #[.slice qc 1 cqc, .slice cc2 16 ccc])) ?_ ?_
  · have hx : w.heap.size ≤ Y1.heap.size := by omega
    have n2 : Y2.heap.size ≠ Y1.heap.size := by omega
    have n3 : w8.heap.size ≠ Y1.heap.size := by omega
    have n4 : w8.heap.size + 1 ≠ Y1.heap.size := by omega
    have n5 : W7.heap.size ≠ Y1.heap.size := by omega
    refine ⟨((hw8.trans (hbY.mono hw8.size)).setCell hx _).setCell hx _, (km9.set 0 _).set 1 _, ⟨_, ((kr8.below hbY kr8.lt).other n2 _).other n2 _, _, _, _, rfl⟩, ((kc8.below hbY kc8.lt).other n3 _).other n3 _, ((ks8.below hbY ks8.lt).other n4 _).other n4 _, ((ka8.below hbY ka8.lt).other n5 _).other n5 _, ?_⟩
    refine HMV.out _ (fun k hk => ?_)
    have hne : k ≠ Y1.heap.size := by omega
    rw [Below.heap_setCell _ _ _ _ hne, Below.heap_setCell _ _ _ _ hne]
  clear hw8 km8 kr8 ka8 kc8 ks8 har km9 m0 m1 z0 z1 hbY HMV HK8 HS2
  rintro W9 ⟨hw9, km9, ⟨l9, kr9, lx, ly, lz, rfl⟩, kc9, ks9, ka9, hmv9⟩
  have a0 : W9.cell? ⟨w8.heap.size + 1, 0, none⟩ = some (.slice (some ⟨W7.heap.size, 0, none⟩) 1 1) := ks9.cell 0
  have a1 : W9.cell? ⟨w8.heap.size + 1, 0 + 1, none⟩ = some (.int .i64 2) := ks9.cell 1
  have a2 : W9.cell? ⟨w8.heap.size + 1, 0 + 1 + 1, none⟩ = some (.int .i64 0) := ks9.cell 2
  have a3 : W9.cell? ⟨w8.heap.size + 1, 0 + 1 + 1 + 1, none⟩ = some (.slice (some ⟨w8.heap.size, 0, none⟩) 3 3) := ks9.cell 3
  have m0 : W9.cell? ⟨Y1.heap.size, 0, none⟩ = some (.slice qc 1 cqc) := km9.cell 0
  have m1 : W9.cell? ⟨Y1.heap.size, 0 + 1, none⟩ = some (.slice cc2 16 ccc) := km9.cell 1
  have har : RowB W9.heap.size W9 2 (some ⟨W7.heap.size, 0, none⟩) [(⟨false, 2⟩ : Ar)].length fun i j => ([(⟨false, 2⟩ : Ar)].getD i default).cell j := by
    intro i hi
    refine ⟨W7.heap.size, 0, rfl, ka9.lt, fun j hj => ?_⟩
    have hi0 : i = 0 := by simpa using hi
    subst hi0
    have hj2 : j = 0 ∨ j = 1 := by omega
    rcases hj2 with rfl | rfl
    · exact ka9.cell 0
    · exact ka9.cell 1
  obtain ⟨hg9, hx9⟩ := hmv9.parts
  have z32 : u32s z16 := fun x hx => by rw [List.eq_of_mem_replicate hx]; omega
  have HR3 := Lib.hid (Run_is (some ⟨W7.heap.size, 0, none⟩) (some ⟨w8.heap.size, 0, none⟩) qc cc2 1 3 cqc ccc [⟨false, 2⟩] 2 0 cd2 [[0, 0]] z16 0 false 3 W9 har kc9.code hg9.toR hx9.row (by simp) (by decide) (by decide) (fun a ha => by simp at ha; subst ha; simp) (fun a ha => by simp at ha; subst ha; intro x hx; simp at hx; omega) z32 (by unfold u32; omega))
  have HK9 := Lib.hid (And.intro hw9 kr9)
  have hr9 := kr9.lt
  clear hw9 km9 kr9 kc9 ks9 ka9 hg9 hx9 har z32
  go_wp2_with fail
  refine HR3.out.mono ?_
  rintro e Y7 ⟨hbY, hst⟩
  rw [run2] at hst
  obtain ⟨v, rfl, hv⟩ := hst
  obtain ⟨qd, cqd, cd', ccd, od, ocd, hvv, _⟩ := hv Y7 (fun _ _ => rfl) rfl
  subst hvv
  have kr10 := HK9.out.2.below hbY hr9
  have r0 : Y7.cell? ⟨Y2.heap.size, 0, none⟩ = some (.slice qb 0 cqb) := kr10.cell 0
  have r1 : Y7.cell? ⟨Y2.heap.size, 0 + 1, none⟩ = some (.slice cb 16 ccb) := kr10.cell 1
  have r2 : Y7.cell? ⟨Y2.heap.size, 0 + 1 + 1, none⟩ = some (.slice lx ly lz) := kr10.cell 2
  have r3 : Y7.cell? ⟨Y2.heap.size, 0 + 1 + 1 + 1, none⟩ = some (.int .i64 8) := kr10.cell 3
  have f0 := kr10.frozen 0
  have f1 := kr10.frozen (0 + 1)
  have f2 := kr10.frozen (0 + 1 + 1)
  have f3 := kr10.frozen (0 + 1 + 1 + 1)
  have HV := Lib.hid (And.intro hbY (And.intro hv kr10))
  have hs10 := hbY.size
  clear hbY hv kr10 a0 a1 a2 a3 m0 m1 HR3
  simp only [z16, List.length_nil, List.length_replicate, List.length_cons]
  go_upto_region 13 with (fail)
  refine wp_gen (fun W => Below w.heap.size w W ∧ Blk W Y2.heap.size [.slice qd 1 cqd, .slice cd' 16 ccd, .slice od 0 ocd, .int .i64 3] 49 ∧ RunVal W ⟨[1, 300], [], [[0, 44]], z16, [], [], 3, 3⟩ (.agg #[.slice qd 1 cqd, .slice cd' 16 ccd, .slice od 0 ocd, .int .i64 3])) ?_ ?_
  · obtain ⟨hbY, hv, kr10⟩ := HV.out
    have hx : w.heap.size ≤ Y2.heap.size := by omega
    refine ⟨(((((HK9.out.1.trans (hbY.mono HK9.out.1.size)).setCell hx _).setCell hx _).setCell hx _).setCell hx _), (((kr10.set 0 _).set 1 _).set 2 _).set 3 _, ?_⟩
    refine hv _ (fun k hk => ?_) (by simp [World.setCell])
    have hne : k ≠ Y2.heap.size := by omega
    rw [Below.heap_setCell _ _ _ _ hne, Below.heap_setCell _ _ _ _ hne, Below.heap_setCell _ _ _ _ hne, Below.heap_setCell _ _ _ _ hne]
  clear HV HK9 r0 r1 r2 r3 f0 f1 f2 f3
  rintro W10 ⟨hw10, kr11, hrv⟩
  have hge := hrv.grid
  clear hrv
  obtain ⟨q, qo, a, cap, rfl, hq0, hnn⟩ := hge 0 (by simp)
  have hq0' : W10.cell? ⟨q, qo, none⟩ = some (.slice a 2 cap) := hq0
  have hrow : RowB W10.heap.size W10 1 a ([0, 44] : List Int).length (fun j _ => .int .u32 (([0, 44] : List Int).getD j 0)) := hnn.row
  have r0 : W10.cell? ⟨Y2.heap.size, 0, none⟩ = some (.slice (some ⟨q, qo, none⟩) 1 cqd) := kr11.cell 0
  have r3 : W10.cell? ⟨Y2.heap.size, 3, none⟩ = some (.int .i64 3) := kr11.cell 3
  have hbn : Below W10.heap.size W10 (W10.alloc (.cells #[.int .u32 0, .int .u32 44] 42)) := (Below.refl _ _).alloc (Nat.le_refl _) _
  have hnew : Blk (W10.alloc (.cells #[.int .u32 0, .int .u32 44] 42)) W10.heap.size [.int .u32 0, .int .u32 44] 42 := heap_new1 _ _
  have HSN := Lib.hid (same_nums a (some ⟨W10.heap.size, 0, none⟩) cap 2 [0, 44] [0, 44] (W10.alloc (.cells #[.int .u32 0, .int .u32 44] 42)) ((hrow.below hbn).mono hbn.size) (fun j hj => by
      refine ⟨W10.heap.size, 0, rfl, hnew.lt, fun i hi => ?_⟩
      have hi0 : i = 0 := by omega
      subst hi0
      have hj2 : j = 0 ∨ j = 1 := by simp at hj; omega
      rcases hj2 with rfl | rfl
      · exact hnew.cell 0
      · exact hnew.cell 1) (by simp))
  have hql : q < W10.heap.size := World.block_lt_of_cell? W10 _ hq0'
  have hyl : Y2.heap.size < W10.heap.size := kr11.lt
  have HW10 := Lib.hid hw10
  clear hq0 hnn hrow hbn hnew kr11 hge hw10
  go_wp2_with fail
  refine HSN.out.mono ?_
  rintro e V ⟨rfl, n, rfl⟩
  go_wp2
  go_ret
  exact ⟨rfl, drewN_below (HW10.out.alloc HW10.out.size _) n⟩
end Go.Proofs.Ytefdnjhhaejgbaa
