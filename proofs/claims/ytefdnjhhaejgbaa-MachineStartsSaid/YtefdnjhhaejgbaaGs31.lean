/- A part of the proof of MachineStarts: Fc Pf Pg. No condition. -/
import Derived.Test.YtefdnjhhaejgbaaGs30
import Derived.Test.YtefdnjhhaejgbaaGs04
import Derived.Test.YtefdnjhhaejgbaaGs15
set_option linter.unusedSimpArgs false
set_option linter.unusedVariables false
namespace Go.Proofs.Ytefdnjhhaejgbaa
open Go.RowKit
set_option linter.unusedVariables false

def FeedPost (w : World) (r : Except Int FS) (e : Ending) (w' : World) : Prop :=
  Below w.heap.size w w' ∧ match r with
  | .ok a => ∃ v, e = .returned (.tuple #[v, .int .i64 0]) ∧ ResAt w' a.arr a.ctx a.out a.steps v
  | .error n => e = .returned (.tuple #[zeroRunV, .int .i64 n])

/-- the boxes of 'Feed' -/
def FeedBoxes (w : World) (c1 : List Value) (z : World) : Prop :=
  Below w.heap.size w z ∧ Blk z w.heap.size c1 25 ∧ Blk z (w.heap.size + 1) zeroRun 49 ∧ z.heap.size = w.heap.size + 2
theorem feed_boxes (w : World) (c1 : List Value) : FeedBoxes w c1 ((w.alloc (.cells c1.toArray 25)).alloc (.cells #[.slice none 0 0, .slice none 0 0, .slice none 0 0, .int .i64 0] 49)) := by
  refine ⟨((Below.refl _ _).alloc (by simp) _).alloc (by simp) _, ?_, ?_, by simp⟩
  · exact heap_old2 _ _ _
  · have := heap_new1 (w.alloc (.cells c1.toArray 25)) (.cells #[.slice none 0 0, .slice none 0 0, .slice none 0 0, .int .i64 0] 49)
    unfold Blk
    simpa [zeroRun] using this

theorem feedRes_ok {ars : List Ar} {regs spills : Int} {cd : List RI} {data : List Int} {fuel : Int} (h1 : (chkCode ars regs spills cd).2 = 0) (h2 : data.length ≤ 65536) (h3 : 0 ≤ fuel ∧ fuel ≤ 281474976710656) :
    feedRes ars regs spills cd data fuel = feedGo ars regs spills cd data fuel (data.length + 1) 0 ⟨zeros ars, List.replicate 16 0, [], 0⟩ := by
  unfold feedRes
  rw [if_neg (by simpa using h1), if_neg (by omega), if_neg (by omega)]

theorem feedGo_step {ars : List Ar} {regs spills : Int} {cd : List RI} {data : List Int} {fuel : Int} {k : Nat} {a : FS} (hk : k < data.length + 1) :
    feedGo ars regs spills cd data fuel (data.length + 1 - k) k a = (feedStep ars regs spills cd data fuel k a).bind (feedGo ars regs spills cd data fuel (data.length + 1 - (k + 1)) (k + 1)) := by
  rw [show data.length + 1 - k = (data.length + 1 - (k + 1)) + 1 by omega]
  rfl

theorem feed_end {w Y : World} {n : Int} {R : Except Int FS} (hR : R = .error n) (hb : Below w.heap.size w Y) :
    FeedPost w R (.returned (.tuple #[.agg #[.slice none 0 0, .slice none 0 0, .slice none 0 0, .int .i64 0], .int .i64 n])) ((((Y.setCell ⟨w.heap.size + 1, 0, none⟩ (.slice none 0 0)).setCell ⟨w.heap.size + 1, 1, none⟩ (.slice none 0 0)).setCell ⟨w.heap.size + 1, 2, none⟩ (.slice none 0 0)).setCell ⟨w.heap.size + 1, 3, none⟩ (.int .i64 0)) := by
  subst hR
  have hx : w.heap.size ≤ w.heap.size + 1 := by omega
  exact ⟨(((hb.setCell hx _).setCell hx _).setCell hx _).setCell hx _, rfl⟩

theorem own_same {w w' : World} {base : Nat} {e : TypeId} {size n : Nat} {v : Value} {xs : List Value} (h : w.ownsRow base e size v n xs) (hs : ∀ k, v.ownBlock = some k → w'.heap[k]? = w.heap[k]?) : w'.ownsRow base e size v n xs := by
  refine ⟨h.1, ?_⟩
  rcases h.2 with hn | ⟨g, cap, cur, hv, hb, hgg, rest⟩
  · exact .inl hn
  · refine .inr ⟨g, cap, cur, hv, hb, ?_, rest⟩
    rw [hs g (by rw [hv]; rfl)]
    exact hgg

/-- what the floats of a round look at -/
def FeedCls (ab rb : Nat) (o : Value) (m n : Int) (x : World) : Prop := x.cell? ⟨ab, 2, none⟩ = some o ∧ x.cell? ⟨ab, 3, none⟩ = some (.int .i64 m) ∧ ∃ l, Blk x rb l 49 ∧ l[3]? = some (.int .i64 n)
theorem FeedCls.set {ab rb : Nat} {o : Value} {m n : Int} {x : World} (h : FeedCls ab rb o m n x) (hne : ab ≠ rb) (v : Value) : FeedCls ab rb o m n (x.setCell ⟨rb, 2, none⟩ v) := by
  have e1 : ∀ i, (x.setCell ⟨rb, 2, none⟩ v).cell? ⟨ab, i, none⟩ = x.cell? ⟨ab, i, none⟩ := fun i => World.cell?_of_block (Below.heap_setCell _ _ _ _ hne)
  obtain ⟨l, h1, h2⟩ := h.2.2
  exact ⟨by rw [e1]; exact h.1, by rw [e1]; exact h.2.1, l.set 2 v, h1.set 2 v, by rw [List.getElem?_set_ne (by decide)]; exact h2⟩

theorem FeedAt.exec {w wr V0 : World} {cells : List Value} {cd : List RI} {pb ab : Nat} {a : FS} {qa ca oa : Option Addr} {cq cc oc : Nat} (F : FeedAt w cells cd pb ab a qa ca oa cq cc oc wr) (hb0 : Below wr.heap.size wr V0) :
    Blk V0 w.heap.size cells 25 ∧ Blk V0 pb (natsV (ptOf cd)) 3 ∧ Blk V0 ab [.slice qa a.arr.length cq, .slice ca a.ctx.length cc, .slice oa a.out.length oc, .int .i64 a.steps] 49 ∧ MemRows qa ca a.arr a.ctx V0 ∧ Below w.heap.size w V0 := by
  refine ⟨F.code.below hb0 F.code.lt, F.pt.below hb0 F.pt.lt, F.all.below hb0 F.all.lt, ?_, F.bel.trans (hb0.mono F.bel.size)⟩
  obtain ⟨B, E, h1, h2, h3, h4⟩ := F.mem
  exact h4 V0 (Nat.le_trans h3 hb0.size) fun k _ hk => hb0.block k (Nat.lt_of_lt_of_le hk h3)

theorem FeedAt.result {w wr w' : World} {cells : List Value} {cd : List RI} {pb ab : Nat} {a : FS} {qa ca oa : Option Addr} {cq cc oc : Nat} (F : FeedAt w cells cd pb ab a qa ca oa cq cc oc wr) (hk : ∀ k, k ≠ w.heap.size + 1 → w'.heap[k]? = wr.heap[k]?) (hs : w'.heap.size = wr.heap.size) :
    ResAt w' a.arr a.ctx a.out a.steps (.agg #[.slice qa a.arr.length cq, .slice ca a.ctx.length cc, .slice oa a.out.length oc, .int .i64 a.steps]) := by
  have h1 := F.l1
  have h2 := F.l2
  obtain ⟨B, E, m1, m2, m3, m4⟩ := F.mem
  have hm := m4 w' (by omega) fun k hB _ => hk k (by omega)
  have ho := own_same (w' := w') F.out fun k hx => hk k (by have := (F.out.lt k hx).1; omega)
  refine ⟨qa, cq, ca, cc, oa, oc, rfl, hm.1, hm.2, ?_⟩
  have hr := own_fits ho (by simp [ints])
  refine hr.congr fun j hj => ?_
  simp [ints, List.getD_eq_getElem?_getD, List.getElem?_eq_getElem hj]

set_option maxRecDepth 100000 in
set_option maxHeartbeats 1000000 in
theorem Feed_main (arsA codeA dA : Option Addr) (arsC codeC dC : Nat) (ars : List Ar) (regs spills : Int) (cd : List RI) (data : List Int) (fuel : Int) (w : World)
    (hars : RowB w.heap.size w 2 arsA ars.length fun i j => (ars.getD i default).cell j) (hcd : RowB w.heap.size w 5 codeA cd.length fun i j => (cd.getD i default).cell j) (hdat : RowB w.heap.size w 1 dA data.length fun j _ => .int .u8 (data.getD j 0))
    (hA : ars.length ≤ 9223372036854775807) (hC : cd.length ≤ 9223372036854775807) (harg : ∀ i ∈ cd, 0 ≤ i.arg ∧ i.arg < 4294967296) (hd8 : ∀ n ∈ data, 0 ≤ n ∧ n < 256) (hchk : (chkCode ars regs spills cd).2 = 0) (hdl : data.length ≤ 65536) (hfu : 0 ≤ fuel ∧ fuel ≤ 281474976710656) :
    Calls Try.prog 25 #[.agg #[.slice arsA ars.length arsC, .int .i64 regs, .int .i64 spills, .slice codeA cd.length codeC], .slice dA data.length dC, .int .i64 fuel] w (FeedPost w (feedRes ars regs spills cd data fuel)) := by
  have G := chk_good hchk
  obtain ⟨R, hR⟩ : ∃ R, feedRes ars regs spills cd data fuel = R := ⟨_, rfl⟩
  rw [hR]
  rw [feedRes_ok hchk hdl hfu] at hR
  obtain ⟨cells, hcells⟩ : ∃ cells : List Value, cells = [.slice arsA ars.length arsC, .int .i64 regs, .int .i64 spills, .slice codeA cd.length codeC] := ⟨_, rfl⟩
  have HR := Lib.hid hR
  have HARS := Lib.hid hars
  have HCD := Lib.hid hcd
  have HDAT := Lib.hid hdat
  have HARG := Lib.hid harg
  have HD8 := Lib.hid hd8
  have HCK := Lib.hid hchk
  have HG := Lib.hid G
  have qd : decide ((65536 : Int) < (data.length : Int)) = false := by simp; omega
  have qf : (decide (0 ≤ fuel) && decide (fuel ≤ 281474976710656)) = true := by simp; omega
  obtain ⟨hf0, hf1⟩ := hfu
  clear hars hcd hdat harg hd8 hchk G hR
  go_enter Try.func25, Try.ntmps25
  go_upto_region 1 with (fail)
  refine wp_gen _ (feed_boxes w [.slice arsA ars.length arsC, .int .i64 regs, .int .i64 spills, .slice codeA cd.length codeC]) ?_
  rintro W ⟨hbW, k1, k2, hsz⟩
  have HCH := Lib.hid (Check_any arsA codeA arsC codeC ars regs spills cd W ((HARS.out.below hbW).mono hbW.size) ((HCD.out.below hbW).mono hbW.size) hA hC HARG.out)
  have a0 : W.cell? ⟨w.heap.size, 0, none⟩ = some (.slice arsA ars.length arsC) := k1.cell 0
  have a1 : W.cell? ⟨w.heap.size, 0 + 1, none⟩ = some (.int .i64 regs) := k1.cell 1
  have a2 : W.cell? ⟨w.heap.size, 0 + 1 + 1, none⟩ = some (.int .i64 spills) := k1.cell 2
  have a3 : W.cell? ⟨w.heap.size, 0 + 1 + 1 + 1, none⟩ = some (.slice codeA cd.length codeC) := k1.cell 3
  have HW := Lib.hid (And.intro hbW (And.intro k1 k2))
  clear hbW k1 k2
  go_wp2_with fail
  refine HCH.out.mono ?_
  rintro e Y ⟨he, hbY⟩
  rw [HCK.out] at he
  subst he
  obtain ⟨hbW, k1, k2⟩ := HW.out
  have kY1 := k1.below hbY k1.lt
  have kY2 := k2.below hbY k2.lt
  have y0 : Y.cell? ⟨w.heap.size, 0, none⟩ = some (.slice arsA ars.length arsC) := kY1.cell 0
  have y3 : Y.cell? ⟨w.heap.size, 3, none⟩ = some (.slice codeA cd.length codeC) := kY1.cell 3
  have hwY : Below w.heap.size w Y := hbW.trans (hbY.mono hbW.size)
  have hlY : w.heap.size + 1 < Y.heap.size := kY2.lt
  have HPA := Lib.hid (partners_any codeA codeC cd Y ((HCD.out.below hwY).mono hwY.size) HG.out.hcd HG.out.hnest)
  have HY := Lib.hid (And.intro hwY (And.intro kY1 kY2))
  clear hbY hbW k1 k2 kY1 kY2 hwY a0 a1 a2 a3 HW HCH hsz
  go_wp2_with fail
  refine (allowed_any fuel Y).mono ?_
  rintro e Y2 ⟨rfl, rfl⟩
  rw [qf]
  go_wp2_with fail
  refine HPA.out.mono ?_
  rintro e Z ⟨rfl, hpk, hbZ⟩
  obtain ⟨hwY, kY1, kY2⟩ := HY.out
  have hwZ : Below w.heap.size w Z := hwY.trans (hbZ.mono hwY.size)
  have kZ1 := kY1.below hbZ kY1.lt
  have kZ2 := kY2.below hbZ kY2.lt
  have z0 : Z.cell? ⟨w.heap.size, 0, none⟩ = some (.slice arsA ars.length arsC) := kZ1.cell 0
  have HST := Lib.hid (start_any arsA arsC ars Z ((HARS.out.below hwZ).mono hwZ.size) HG.out.hnA HG.out.hars)
  have HZ := Lib.hid (And.intro hwZ (And.intro kZ1 (And.intro kZ2 hpk)))
  clear hbZ hwY kY1 kY2 hwZ kZ1 kZ2 hpk y0 y3 HY HPA
  go_wp2_with fail
  refine HST.out.mono ?_
  rintro e X hX
  obtain ⟨qa, cq, ca, cc, rfl, hlie, hbX⟩ := lift_copy hX
  obtain ⟨ms, hms⟩ : ∃ ms, zeros ars = ms := ⟨_, rfl⟩
  obtain ⟨cx, hcx⟩ : ∃ cx : List Int, List.replicate 16 0 = cx := ⟨_, rfl⟩
  have hfit := zeros_fit HG.out.hars
  have hzu := zeros_u32 ars
  have hcu := u32s_rep 16
  rw [hms, hcx] at hlie ⊢
  have hgood : FGood ars fuel ⟨ms, cx, [], 0⟩ := ⟨by rw [← hms, ← hcx]; exact hfit, by rw [← hms]; exact hzu, by rw [← hcx]; exact hcu, Int.le_refl _, hf0, by simp⟩
  have hgo := HR.out
  rw [hms, hcx] at hgo
  have HGO := Lib.hid (And.intro hgood hgo)
  have HX := Lib.hid (And.intro hlie hbX)
  clear hX hlie hbX hms hcx hfit hzu hcu hgood hgo HST z0
  go_upto_region 10 with (fail)
  refine wp_gen (fun W => FeedAt w [.slice arsA ars.length arsC, .int .i64 regs, .int .i64 spills, .slice codeA cd.length codeC] cd Y.heap.size X.heap.size ⟨ms, cx, [], 0⟩ qa ca none cq cc 0 W) ?_ ?_
  · obtain ⟨hlie, hbX⟩ := HX.out
    obtain ⟨hwZ, kZ1, kZ2, hpk⟩ := HZ.out
    have hbb : Below X.heap.size X (X.alloc (.cells #[.slice qa ms.length cq, .slice ca cx.length cc, .slice none 0 0, .int .i64 0] 49)) := (Below.refl _ _).alloc (Nat.le_refl _) _
    have hlt := hpk.lt
    have hsX := hbX.size
    have hb2 := hbX.trans (hbb.mono hbX.size)
    refine ⟨hwZ.trans (hb2.mono hwZ.size), kZ1.below hb2 kZ1.lt, kZ2.below hb2 kZ2.lt, hpk.below hb2 hpk.lt, heap_new1 _ _, ⟨Z.heap.size, X.heap.size, hlt, .inr (Nat.le_refl _), by simp, hlie.move fun k _ hk => Below.heap_alloc _ _ _ hk⟩, World.ownsRow_nil _ _ _ _, hlY, by omega⟩
  rintro W1 F1
  have HF1 := Lib.hid F1
  clear F1 HX HZ
  go_wp2_with fail
  go_loopw [46] (fun i wr => ∃ (k : Nat) (a : FS) (qa ca oa : Option Addr) (cq cc oc : Nat), i = .int .i64 (k : Int) ∧ k ≤ data.length + 1 ∧ FGood ars fuel a ∧ feedGo ars regs spills cd data fuel (data.length + 1 - k) k a = R ∧ FeedAt w [.slice arsA ars.length arsC, .int .i64 regs, .int .i64 spills, .slice codeA cd.length codeC] cd Y.heap.size X.heap.size a qa ca oa cq cc oc wr) (fun i _ => data.length + 1 - (intOf i).toNat)
  case atStart => exact ⟨0, ⟨ms, cx, [], 0⟩, qa, ca, none, cq, cc, 0, rfl, Nat.zero_le _, HGO.out.1, HGO.out.2, HF1.out⟩
  case round =>
    obtain ⟨k, a, qa2, ca2, oa, cq2, cc2, oc, rfl, hk, hgd, hgo, F⟩ := hrel
    have HF := Lib.hid F
    have HGD := Lib.hid hgd
    have HGO2 := Lib.hid hgo
    clear HGO HF1 hgo
    by_cases hlt : k < data.length + 1
    rotate_left
    · have hke : k = data.length + 1 := by omega
      have q : decide ((k : Int) < (data.length : Int) + 1) = false := by simp; omega
      have hRn : R = .ok a := by rw [← HGO2.out, hke, Nat.sub_self]; rfl
      have HRN := Lib.hid hRn
      have kz := F.res
      have r0 : wr.cell? ⟨X.heap.size, 0, none⟩ = some (.slice qa2 a.arr.length cq2) := F.all.cell 0
      have r1 : wr.cell? ⟨X.heap.size, 0 + 1, none⟩ = some (.slice ca2 a.ctx.length cc2) := F.all.cell 1
      have r2 : wr.cell? ⟨X.heap.size, 0 + 1 + 1, none⟩ = some (.slice oa a.out.length oc) := F.all.cell 2
      have r3 : wr.cell? ⟨X.heap.size, 0 + 1 + 1 + 1, none⟩ = some (.int .i64 a.steps) := F.all.cell 3
      have z0 : wr.cell? ⟨w.heap.size + 1, 0, none⟩ = some (.slice none 0 0) := kz.cell 0
      have z1 : wr.cell? ⟨w.heap.size + 1, 0 + 1, none⟩ = some (.slice none 0 0) := kz.cell 1
      have z2 : wr.cell? ⟨w.heap.size + 1, 0 + 1 + 1, none⟩ = some (.slice none 0 0) := kz.cell 2
      have z3 : wr.cell? ⟨w.heap.size + 1, 0 + 1 + 1 + 1, none⟩ = some (.int .i64 0) := kz.cell 3
      have f0 := kz.frozen 0
      have f1 := kz.frozen (0 + 1)
      have f2 := kz.frozen (0 + 1 + 1)
      have f3 := kz.frozen (0 + 1 + 1 + 1)
      clear hRn hke F hgd hlt
      go_wp2
      refine bodyPost_ret (v := .tuple #[.agg #[.slice qa2 a.arr.length cq2, .slice ca2 a.ctx.length cc2, .slice oa a.out.length oc, .int .i64 a.steps], .int .i64 0]) ?_ rfl ?_
      · have e0 := ((((kz.set 0 (.slice qa2 a.arr.length cq2)).set 1 (.slice ca2 a.ctx.length cc2)).set 2 (.slice oa a.out.length oc)).set 3 (.int .i64 a.steps))
        have y0 := e0.cell 0
        have y1 := e0.cell 1
        have y2 := e0.cell 2
        have y3 := e0.cell 3
        simp only [zeroRun, List.set_cons_zero, List.set_cons_succ, List.getElem?_cons_zero, List.getElem?_cons_succ] at y0 y1 y2 y3
        simp [results, Try.results25, go_sem, y0, y1, y2, y3]
      · rw [HRN.out]
        have hx : w.heap.size ≤ w.heap.size + 1 := by omega
        refine ⟨(((HF.out.bel.setCell hx _).setCell hx _).setCell hx _).setCell hx _, _, rfl, HF.out.result (fun k hk => ?_) (by simp)⟩
        rw [Below.heap_setCell _ _ _ _ hk, Below.heap_setCell _ _ _ _ hk, Below.heap_setCell _ _ _ _ hk, Below.heap_setCell _ _ _ _ hk]
    have q : decide ((k : Int) < (data.length : Int) + 1) = true := by simp; omega
    have r3 : wr.cell? ⟨X.heap.size, 3, none⟩ = some (.int .i64 a.steps) := F.all.cell 3
    have rlt : X.heap.size < wr.heap.size := F.all.lt
    have st0 := hgd.s0
    have st1 := hgd.s1
    clear F hgd
    have hcase : k < data.length ∨ k = data.length := by omega
    obtain ⟨inp, hinp⟩ : ∃ inp, data.getD k 0 = inp := ⟨_, rfl⟩
    have hi8 : 0 ≤ inp ∧ inp < 256 := by
      rw [← hinp, List.getD_eq_getElem?_getD]
      cases hkd : data[k]? with
      | none => exact ⟨by decide, by decide⟩
      | some x => exact HD8.out x (List.mem_of_getElem? hkd)
    obtain ⟨i0, i1⟩ := hi8
    rcases hcase with hkd | hkd
    · have e1 : ((k : Int) == (data.length : Int)) = false := by first | (simp; omega) | (subst hkd; simp)
      have hin0 : inp = inp := by
        first
          | rfl
          | (rw [← hinp, hkd, List.getD_eq_getElem?_getD, List.getElem?_eq_none (Nat.le_refl _)]; rfl)
      have hdec : decide (k = data.length) = false := by first | (simp; omega) | (simpa using hkd)
      have hstep := feedGo_step (ars := ars) (regs := regs) (spills := spills) (cd := cd) (data := data) (fuel := fuel) (k := k) (a := a) hlt
      rw [HGO2.out] at hstep
      unfold feedStep at hstep
      rw [hinp, hdec] at hstep
      have HSTEP := Lib.hid hstep
      have HIN := Lib.hid hin0
      clear hstep hin0 hdec
      obtain ⟨db, doff, hdA, hdb, hdc⟩ := HDAT.out k hkd
      have dc : wr.cell? ⟨db, doff + k, none⟩ = some (.int .u8 inp) := by
        rw [HF.out.bel.cell (p := ⟨db, doff + k, none⟩) hdb, ← hinp]
        simpa using hdc 0 (by omega)
      have dlt : db < wr.heap.size := Nat.lt_of_lt_of_le hdb HF.out.bel.size
      have hkk := nat_cast_ltP hkd
      subst hdA
      clear hdb hdc
      clear hlt hinp
      go_upto_region 16 with (fail)
      refine wp_gen (fun V0 => Below wr.heap.size wr V0 ∧ Blk V0 wr.heap.size [.int .u32 inp, .bool false, .int .i64 (fuel - a.steps)] 44) ⟨(Below.refl _ _).alloc (Nat.le_refl _) _, heap_new1 _ _⟩ ?_
      rintro V0 ⟨hb0, kc⟩
      obtain ⟨x1, x2, x3, x4, x5⟩ := HF.out.exec hb0
      have c0 : V0.cell? ⟨w.heap.size, 0, none⟩ = some (.slice arsA ars.length arsC) := x1.cell 0
      have c1 : V0.cell? ⟨w.heap.size, 0 + 1, none⟩ = some (.int .i64 regs) := x1.cell 1
      have c2 : V0.cell? ⟨w.heap.size, 0 + 1 + 1, none⟩ = some (.int .i64 spills) := x1.cell 2
      have c3 : V0.cell? ⟨w.heap.size, 0 + 1 + 1 + 1, none⟩ = some (.slice codeA cd.length codeC) := x1.cell 3
      have m0 : V0.cell? ⟨X.heap.size, 0, none⟩ = some (.slice qa2 a.arr.length cq2) := x3.cell 0
      have m1 : V0.cell? ⟨X.heap.size, 0 + 1, none⟩ = some (.slice ca2 a.ctx.length cc2) := x3.cell 1
      have d0 : V0.cell? ⟨wr.heap.size, 0, none⟩ = some (.int .u32 inp) := kc.cell 0
      have d1 : V0.cell? ⟨wr.heap.size, 0 + 1, none⟩ = some (.bool false) := kc.cell 1
      have d2 : V0.cell? ⟨wr.heap.size, 0 + 1 + 1, none⟩ = some (.int .i64 (fuel - a.steps)) := kc.cell 2
      have HEX := Lib.hid (exec_is arsA codeA qa2 ca2 arsC codeC cq2 cc2 ars regs spills cd a.arr a.ctx inp false (fuel - a.steps) V0 Y.heap.size HCK.out HARG.out HGD.out.fit (by omega) HGD.out.ua HGD.out.uc ⟨by omega, by omega⟩ x2 ((HARS.out.below x5).mono x5.size) ((HCD.out.below x5).mono x5.size) x4)
      have HB0 := Lib.hid (And.intro hb0 x5)
      clear x1 x2 x3 x4 x5 hb0 kc r3 rlt
      go_wp2_with fail
      refine HEX.out.mono ?_
      rintro e V1 ⟨hb1, hpost⟩
      clear HEX c0 c1 c2 c3 m0 m1 d0 d1 d2
      have HB1 := Lib.hid hb1
      cases hr : machRun ars regs spills cd a.arr a.ctx inp false (fuel - a.steps) with
      | error n =>
        rw [hr] at hpost
        replace hpost : e = .returned (.tuple #[.agg #[.slice none 0 0, .slice none 0 0, .slice none 0 0, .int .i64 0], .int .i64 n]) := hpost
        subst hpost
        have hn0 : (n != 0) = true := by simpa using NeedsErr hr
        have hRn : R = .error n := by first | (rw [HSTEP.out, HIN.out, hr]; rfl) | (rw [HSTEP.out, hr]; rfl)
        have HRN := Lib.hid hRn
        clear hr hRn hb1
        go_upto_region 18 with (fail)
        refine wp_gen (fun V2 => Below w.heap.size w V2 ∧ Blk V2 (w.heap.size + 1) zeroRun 49) ?_ ?_
        · have hwv := HB0.out.2.trans (HB1.out.mono HB0.out.2.size)
          exact ⟨hwv.alloc hwv.size _, ((HF.out.res.below HB0.out.1 HF.out.res.lt).below HB1.out (Nat.lt_of_lt_of_le HF.out.res.lt HB0.out.1.size)).below ((Below.refl _ _).alloc (Nat.le_refl _) _) (Nat.lt_of_lt_of_le (Nat.lt_of_lt_of_le HF.out.res.lt HB0.out.1.size) HB1.out.size)⟩
        rintro V2 ⟨hb2, kz⟩
        have z0 : V2.cell? ⟨w.heap.size + 1, 0, none⟩ = some (.slice none 0 0) := kz.cell 0
        have z1 : V2.cell? ⟨w.heap.size + 1, 0 + 1, none⟩ = some (.slice none 0 0) := kz.cell 1
        have z2 : V2.cell? ⟨w.heap.size + 1, 0 + 1 + 1, none⟩ = some (.slice none 0 0) := kz.cell 2
        have z3 : V2.cell? ⟨w.heap.size + 1, 0 + 1 + 1 + 1, none⟩ = some (.int .i64 0) := kz.cell 3
        have f0 := kz.frozen 0
        have f1 := kz.frozen (0 + 1)
        have f2 := kz.frozen (0 + 1 + 1)
        have f3 := kz.frozen (0 + 1 + 1 + 1)
        have HB2 := Lib.hid hb2
        clear hb2
        go_wp2
        refine bodyPost_ret (v := .tuple #[.agg #[.slice none 0 0, .slice none 0 0, .slice none 0 0, .int .i64 0], .int .i64 n]) ?_ rfl ?_
        · have e0 := ((((kz.set 0 (.slice none 0 0)).set 1 (.slice none 0 0)).set 2 (.slice none 0 0)).set 3 (.int .i64 0))
          have y0 := e0.cell 0
          have y1 := e0.cell 1
          have y2 := e0.cell 2
          have y3 := e0.cell 3
          simp only [zeroRun, List.set_cons_zero, List.set_cons_succ, List.getElem?_cons_zero, List.getElem?_cons_succ] at y0 y1 y2 y3
          simp [results, Try.results25, go_sem, y0, y1, y2, y3]
        · exact feed_end HRN.out HB2.out
      | ok s =>
        rw [hr] at hpost
        obtain ⟨v, rfl, hv⟩ := hpost
        obtain ⟨qb, cqb, cb, ccb, ob, ocb, rfl, hl⟩ := lift_run hv
        have hRn : R = if 65536 < (a.out ++ s.out).length then .error 5 else feedGo ars regs spills cd data fuel (data.length + 1 - (k + 1)) (k + 1) ⟨s.arr, s.ctx, a.out ++ s.out, a.steps + s.steps⟩ := by
          first
            | (rw [HSTEP.out, HIN.out, hr]; dsimp only; split <;> rfl)
            | (rw [HSTEP.out, hr]; dsimp only; split <;> rfl)
        have hgood2 : ¬ 65536 < (a.out ++ s.out).length → FGood ars fuel ⟨s.arr, s.ctx, a.out ++ s.out, a.steps + s.steps⟩ := by
          intro hnl
          obtain ⟨n1, n2, n3, n4, n5, _, _⟩ := mach_fuel HARG.out HGD.out.ua HGD.out.uc ⟨by omega, by omega⟩ hr
          exact ⟨n3, n4, n5, by show 0 ≤ a.steps + s.steps; omega, by show a.steps + s.steps ≤ fuel; omega, by show (a.out ++ s.out).length ≤ 65536; omega⟩
        have o1 := (mach_out hr).1
        have n1 := (mach_fuel HARG.out HGD.out.ua HGD.out.uc ⟨by omega, by omega⟩ hr).1
        have n2 := (mach_fuel HARG.out HGD.out.ua HGD.out.uc ⟨by omega, by omega⟩ hr).2.1
        have hol := HGD.out.ol
        have x3 : Blk V1 X.heap.size [.slice qa2 a.arr.length cq2, .slice ca2 a.ctx.length cc2, .slice oa a.out.length oc, .int .i64 a.steps] 49 := (HF.out.all.below HB0.out.1 HF.out.all.lt).below hb1 (Nat.lt_of_lt_of_le HF.out.all.lt HB0.out.1.size)
        have lt1 : X.heap.size < V1.heap.size := x3.lt
        have HRN := Lib.hid hRn
        have HGD2 := Lib.hid hgood2
        have HL := Lib.hid hl
        have HX3 := Lib.hid x3
        clear hr hRn hgood2 hv hl hb1 x3 HSTEP
        go_upto_region 19 with (fail)
        have hcls : FeedCls X.heap.size V1.heap.size (.slice oa a.out.length oc) a.steps s.steps (V1.alloc (.cells #[.slice qb s.arr.length cqb, .slice cb s.ctx.length ccb, .slice ob s.out.length ocb, .int .i64 s.steps] 49)) := by
          have hq := HX3.out.below (w' := (V1.alloc (.cells #[.slice qb s.arr.length cqb, .slice cb s.ctx.length ccb, .slice ob s.out.length ocb, .int .i64 s.steps] 49))) ((Below.refl _ _).alloc (Nat.le_refl _) _) lt1
          exact ⟨hq.cell 2, hq.cell 3, _, heap_new1 _ _, rfl⟩
        have _inst : Nonempty (CWorld (FeedCls X.heap.size V1.heap.size (.slice oa a.out.length oc) a.steps s.steps)) := ⟨⟨_, hcls⟩⟩
        have p0 : ∀ p : CWorld (FeedCls X.heap.size V1.heap.size (.slice oa a.out.length oc) a.steps s.steps), p.w.cell? ⟨X.heap.size, 2, none⟩ = some (.slice oa a.out.length oc) := fun p => p.h.1
        have p1 : ∀ p : CWorld (FeedCls X.heap.size V1.heap.size (.slice oa a.out.length oc) a.steps s.steps), p.w.cell? ⟨X.heap.size, 3, none⟩ = some (.int .i64 a.steps) := fun p => p.h.2.1
        have p3 : ∀ p : CWorld (FeedCls X.heap.size V1.heap.size (.slice oa a.out.length oc) a.steps s.steps), p.w.cell? ⟨V1.heap.size, 3, none⟩ = some (.int .i64 s.steps) := fun p => by
          obtain ⟨l, h1, h2⟩ := p.h.2.2
          exact (h1.cell 3).trans h2
        refine wp_region_mix (Cls (FeedCls X.heap.size V1.heap.size (.slice oa a.out.length oc) a.steps s.steps)) [1, 6, 8] [0, 2, 5, 7, 9, 10, 12] [(2, 0), (2, 2), (2, 5), (2, 7), (1, 1), (1, 6), (1, 8), (2, 9), (0, 3), (0, 4), (2, 10), (0, 11), (2, 12), (0, 13)] (by kernel_rfl) (by kernel_rfl) (fun c a d v w h => by cases d <;> exact h) ⟨⟨(V1.alloc (.cells #[.slice qb s.arr.length cqb, .slice cb s.ctx.length ccb, .slice ob s.out.length ocb, .int .i64 s.steps] 49)).drew, hcls⟩, rfl⟩ ?_
        simp only [getPlan, List.filterMap_cons, List.filterMap_nil, List.getElem?_toArray, List.getElem?_cons_succ, List.getElem?_cons_zero, Option.map_some]
        repeat ((first | refine wpPlan_pure (fun K hK => ?_) | refine wpPlan_float (fun K hK => ?_)); go_simp; refine hK _ ?_; clear hK K)
        clear p0 p1 p3
        have HCLS := Lib.hid hcls
        clear hcls _inst
        have hown := own_same (w' := (V1.alloc (.cells #[.slice qb s.arr.length cqb, .slice cb s.ctx.length ccb, .slice ob s.out.length ocb, .int .i64 s.steps] 49)).drew) HF.out.out (fun k hk => by
          have h1 := (HF.out.out.lt k hk).2
          have h2 : k < V0.heap.size := Nat.lt_of_lt_of_le h1 HB0.out.1.size
          show (V1.alloc _).heap[k]? = _
          rw [Below.heap_alloc _ _ _ (Nat.lt_of_lt_of_le h2 HB1.out.size), HB1.out.block k h2, HB0.out.1.block k h1])
        have hrow : RowB (V1.alloc (.cells #[.slice qb s.arr.length cqb, .slice cb s.ctx.length ccb, .slice ob s.out.length ocb, .int .i64 s.steps] 49)).drew.heap.size (V1.alloc (.cells #[.slice qb s.arr.length cqb, .slice cb s.ctx.length ccb, .slice ob s.out.length ocb, .int .i64 s.steps] 49)).drew 1 ob s.out.length fun j _ => .int .u8 (s.out.getD j 0) :=
          (HL.out _ (by simp [World.drew]) (fun k _ hk => Below.heap_alloc _ _ _ hk)).2
        have HOWN := Lib.hid hown
        have HROW := Lib.hid hrow
        have hbase : X.heap.size + 1 ≤ (V1.alloc (.cells #[.slice qb s.arr.length cqb, .slice cb s.ctx.length ccb, .slice ob s.out.length ocb, .int .i64 s.steps] 49)).drew.heap.size := by simp [World.drew]; omega
        clear hown hrow
        refine wpPlan_keep ?_
        go_wp2_with fail
        refine ⟨⟨⟨(V1.alloc (.cells #[.slice qb s.arr.length cqb, .slice cb s.ctx.length ccb, .slice ob s.out.length ocb, .int .i64 s.steps] 49)).drew, HCLS.out⟩, rfl⟩, ?_⟩
        refine wpPlan_keep ?_
        refine wpList_app_row Try.elU8 rfl (.tmp 81) (.tmp 83) rfl (X.heap.size + 1) (.slice oa a.out.length oc) a.out.length (ints .u8 a.out) rfl HOWN.out ob s.out.length ocb (fun j => .int .u8 (s.out.getD j 0)) rfl HROW.out (fun _ => rfl) (by omega) hbase ?_
        intro va vcap V3 hown3 hg3 hat3
        have hat4 : (Value.slice va (a.out.length + s.out.length) vcap).ownBlock = (Value.slice oa a.out.length oc).ownBlock ∨ (Value.slice va (a.out.length + s.out.length) vcap).ownBlock = some (V1.heap.size + 1) := by simpa [World.drew] using hat3
        obtain ⟨y1, y2, y3, y4⟩ := feed_round HF.out HB0.out.1 HB1.out HL.out hg3 hown3 hat4
        have Y1 := Lib.hid y1
        have Y2 := Lib.hid y2
        have Y4 := Lib.hid y4
        have r2 : V3.cell? ⟨V1.heap.size, 2, none⟩ = some (.slice ob s.out.length ocb) := y1.cell 2
        have r3 : V3.cell? ⟨V1.heap.size, 3, none⟩ = some (.int .i64 s.steps) := y1.cell 3
        have f2 := y1.frozen 2
        have f3 := y1.frozen 3
        have hw3 : Below w.heap.size w V3 := by
          have hwv := HB0.out.2.trans (HB1.out.mono HB0.out.2.size)
          have hs3 := hg3.size
          refine ⟨?_, ?_, ?_, ?_, ?_⟩
          · rw [hg3.os]; exact hwv.os
          · rw [hg3.tape]; exact hwv.tape
          · rw [hg3.output]; exact hwv.output
          · have := hwv.size
            simp [World.drew] at hs3
            omega
          · intro k hk
            have h0 := hwv.size
            rw [feed_keep hg3 (by omega) (fun e => by
              have h1 := (HF.out.out.lt k e.symm).1
              have h2 := HF.out.l1
              have h3 := HF.out.l2
              omega)]
            exact hwv.block k hk
        have kz3 : Blk V3 (w.heap.size + 1) zeroRun 49 := by
          have h2 := HF.out.l1
          have h3 := HF.out.l2
          unfold Blk
          rw [feed_keep hg3 (by omega) (fun e => by have h1 := (HF.out.out.lt _ e.symm).1; omega)]
          exact (HF.out.res.below HB0.out.1 HF.out.res.lt).below HB1.out (Nat.lt_of_lt_of_le HF.out.res.lt HB0.out.1.size)
        have HW3 := Lib.hid hw3
        have KZ3 := Lib.hid kz3
        clear y1 y2 y4 hown3 hg3 hat3 hat4 HOWN HROW HCLS hw3 kz3
        have cls3 : FeedCls X.heap.size V1.heap.size (.slice oa a.out.length oc) a.steps s.steps V3 := ⟨Y2.out.cell 2, Y2.out.cell 3, _, Y1.out, rfl⟩
        have CL3 := Lib.hid cls3
        clear cls3
        refine ⟨⟨⟨V3, CL3.out⟩, rfl⟩, ?_⟩
        repeat ((first | refine wpPlan_pure (fun K hK => ?_) | refine wpPlan_float (fun K hK => ?_)); go_simp; refine hK _ ?_; clear hK K)
        refine wpPlan_keep ?_
        go_wp2_with fail
        refine ⟨⟨⟨_, CL3.out.set (Nat.ne_of_lt lt1) _⟩, rfl⟩, ?_⟩
        repeat ((first | refine wpPlan_pure (fun K hK => ?_) | refine wpPlan_float (fun K hK => ?_)); go_simp; refine hK _ ?_; clear hK K)
        refine wpPlan_sees (by kernel_rfl) ?_
        go_wp2_with fail
        refine wpPlan_nil ?_
        go_upto_region 20 with (fail)
        refine wp_gen (fun W => Blk W V1.heap.size [.slice qb s.arr.length cqb, .slice cb s.ctx.length ccb, .slice va (a.out.length + s.out.length) vcap, .int .i64 (a.steps + s.steps)] 49 ∧ Blk W X.heap.size [.slice qa2 a.arr.length cq2, .slice ca2 a.ctx.length cc2, .slice oa a.out.length oc, .int .i64 a.steps] 49 ∧ (∀ k, k ≠ V1.heap.size → W.heap[k]? = V3.heap[k]?) ∧ W.heap.size = V3.heap.size ∧ W.os = V3.os ∧ W.tape = V3.tape ∧ W.output = V3.output) ?_ ?_
        · have hne : X.heap.size ≠ V1.heap.size := Nat.ne_of_lt lt1
          exact ⟨(Y1.out.set 2 _).set 3 _, (Y2.out.other (a := ⟨V1.heap.size, 2, none⟩) hne _).other (a := ⟨V1.heap.size, 3, none⟩) hne _, fun k hk => by rw [Below.heap_setCell _ _ _ _ hk, Below.heap_setCell _ _ _ _ hk], by simp, rfl, rfl, rfl⟩
        rintro W4 ⟨ka, kb, kk, ks, ko, kt, kp⟩
        have r0 : W4.cell? ⟨V1.heap.size, 0, none⟩ = some (.slice qb s.arr.length cqb) := ka.cell 0
        have r1 : W4.cell? ⟨V1.heap.size, 0 + 1, none⟩ = some (.slice cb s.ctx.length ccb) := ka.cell 1
        have r2 : W4.cell? ⟨V1.heap.size, 0 + 1 + 1, none⟩ = some (.slice va (a.out.length + s.out.length) vcap) := ka.cell 2
        have r3 : W4.cell? ⟨V1.heap.size, 0 + 1 + 1 + 1, none⟩ = some (.int .i64 (a.steps + s.steps)) := ka.cell 3
        have b0 : W4.cell? ⟨X.heap.size, 0, none⟩ = some (.slice qa2 a.arr.length cq2) := kb.cell 0
        have b1 : W4.cell? ⟨X.heap.size, 0 + 1, none⟩ = some (.slice ca2 a.ctx.length cc2) := kb.cell 1
        have b2 : W4.cell? ⟨X.heap.size, 0 + 1 + 1, none⟩ = some (.slice oa a.out.length oc) := kb.cell 2
        have b3 : W4.cell? ⟨X.heap.size, 0 + 1 + 1 + 1, none⟩ = some (.int .i64 a.steps) := kb.cell 3
        have g0 := kb.frozen 0
        have g1 := kb.frozen (0 + 1)
        have g2 := kb.frozen (0 + 1 + 1)
        have g3 := kb.frozen (0 + 1 + 1 + 1)
        have H4 := Lib.hid (And.intro kb (And.intro kk (And.intro ks (And.intro ko (And.intro kt kp)))))
        clear ka kb kk ks ko kt kp f2 f3
        go_upto_region 21 with (fail)
        refine wp_gen (fun W => FeedAt w [.slice arsA ars.length arsC, .int .i64 regs, .int .i64 spills, .slice codeA cd.length codeC] cd Y.heap.size X.heap.size ⟨s.arr, s.ctx, a.out ++ s.out, a.steps + s.steps⟩ qb cb va cqb ccb vcap W) ?_ ?_
        · obtain ⟨kb, kk, ks, ko, kt, kp⟩ := H4.out
          refine Y4.out _ (fun k h1 h2 => ?_) ?_ ?_ ?_ ?_ ?_
          · rw [Below.heap_setCell _ _ _ _ h2, Below.heap_setCell _ _ _ _ h2, Below.heap_setCell _ _ _ _ h2, Below.heap_setCell _ _ _ _ h2]
            exact kk k h1
          · simpa using ks
          · exact ko
          · exact kt
          · exact kp
          · exact (((kb.set 0 _).set 1 _).set 2 _).set 3 _
        rintro W5 F5
        have hlen : (a.out ++ s.out).length = a.out.length + s.out.length := List.length_append
        have r2 : W5.cell? ⟨X.heap.size, 2, none⟩ = some (.slice va (a.out.length + s.out.length) vcap) := by rw [← hlen]; exact F5.all.cell 2
        have HF5 := Lib.hid F5
        clear F5 H4 r0 r1 r3 b0 b1 b2 b3 g0 g1 g2 g3
        by_cases hlong : 65536 < a.out.length + s.out.length
        · have q5 : decide ((65536 : Int) < ((a.out.length + s.out.length : Nat) : Int)) = true := by simp; omega
          have q6 : decide ((65536 : Int) < (a.out.length : Int) + (s.out.length : Int)) = true := by simp; omega
          have hRn : R = .error 5 := by rw [HRN.out, if_pos (by rw [hlen]; exact hlong)]
          have HRN2 := Lib.hid hRn
          clear hRn
          have kz := HF5.out.res
          have z0 : W5.cell? ⟨w.heap.size + 1, 0, none⟩ = some (.slice none 0 0) := kz.cell 0
          have z1 : W5.cell? ⟨w.heap.size + 1, 0 + 1, none⟩ = some (.slice none 0 0) := kz.cell 1
          have z2 : W5.cell? ⟨w.heap.size + 1, 0 + 1 + 1, none⟩ = some (.slice none 0 0) := kz.cell 2
          have z3 : W5.cell? ⟨w.heap.size + 1, 0 + 1 + 1 + 1, none⟩ = some (.int .i64 0) := kz.cell 3
          have f0 := kz.frozen 0
          have f1 := kz.frozen (0 + 1)
          have f2 := kz.frozen (0 + 1 + 1)
          have f3 := kz.frozen (0 + 1 + 1 + 1)
          go_wp2
          refine bodyPost_ret (v := .tuple #[.agg #[.slice none 0 0, .slice none 0 0, .slice none 0 0, .int .i64 0], .int .i64 5]) ?_ rfl ?_
          · have e0 := ((((kz.set 0 (.slice none 0 0)).set 1 (.slice none 0 0)).set 2 (.slice none 0 0)).set 3 (.int .i64 0))
            have y0 := e0.cell 0
            have y1 := e0.cell 1
            have y2 := e0.cell 2
            have y3 := e0.cell 3
            simp only [zeroRun, List.set_cons_zero, List.set_cons_succ, List.getElem?_cons_zero, List.getElem?_cons_succ] at y0 y1 y2 y3
            simp [results, Try.results25, go_sem, y0, y1, y2, y3]
          · exact feed_end HRN2.out HF5.out.bel
        · have q5 : decide ((65536 : Int) < ((a.out.length + s.out.length : Nat) : Int)) = false := by simp; omega
          have q6 : decide ((65536 : Int) < (a.out.length : Int) + (s.out.length : Int)) = false := by simp; omega
          have hnl : ¬ 65536 < (a.out ++ s.out).length := by rw [hlen]; exact hlong
          have hRn := HRN.out
          rw [if_neg hnl] at hRn
          have HRN2 := Lib.hid hRn
          have HNL := Lib.hid hnl
          clear hRn hnl
          go_wp2
          go_roundw
          case rel => exact ⟨k + 1, ⟨s.arr, s.ctx, a.out ++ s.out, a.steps + s.steps⟩, qb, cb, va, cqb, ccb, vcap, by first | (simp; done) | (simp; omega), by omega, HGD2.out HNL.out, HRN2.out.symm, HF5.out⟩
          case measure => simp [intOf]; omega
    · have e1 : ((k : Int) == (data.length : Int)) = true := by first | (simp; omega) | (subst hkd; simp)
      have hin0 : inp = 0 := by
        first
          | rfl
          | (rw [← hinp, hkd, List.getD_eq_getElem?_getD, List.getElem?_eq_none (Nat.le_refl _)]; rfl)
      have hdec : decide (k = data.length) = true := by first | (simp; omega) | (simpa using hkd)
      have hstep := feedGo_step (ars := ars) (regs := regs) (spills := spills) (cd := cd) (data := data) (fuel := fuel) (k := k) (a := a) hlt
      rw [HGO2.out] at hstep
      unfold feedStep at hstep
      rw [hinp, hdec] at hstep
      have HSTEP := Lib.hid hstep
      have HIN := Lib.hid hin0
      clear hstep hin0 hdec
      clear hlt hinp
      go_upto_region 16 with (fail)
      refine wp_gen (fun V0 => Below wr.heap.size wr V0 ∧ Blk V0 wr.heap.size [.int .u32 0, .bool true, .int .i64 (fuel - a.steps)] 44) ⟨(Below.refl _ _).alloc (Nat.le_refl _) _, heap_new1 _ _⟩ ?_
      rintro V0 ⟨hb0, kc⟩
      obtain ⟨x1, x2, x3, x4, x5⟩ := HF.out.exec hb0
      have c0 : V0.cell? ⟨w.heap.size, 0, none⟩ = some (.slice arsA ars.length arsC) := x1.cell 0
      have c1 : V0.cell? ⟨w.heap.size, 0 + 1, none⟩ = some (.int .i64 regs) := x1.cell 1
      have c2 : V0.cell? ⟨w.heap.size, 0 + 1 + 1, none⟩ = some (.int .i64 spills) := x1.cell 2
      have c3 : V0.cell? ⟨w.heap.size, 0 + 1 + 1 + 1, none⟩ = some (.slice codeA cd.length codeC) := x1.cell 3
      have m0 : V0.cell? ⟨X.heap.size, 0, none⟩ = some (.slice qa2 a.arr.length cq2) := x3.cell 0
      have m1 : V0.cell? ⟨X.heap.size, 0 + 1, none⟩ = some (.slice ca2 a.ctx.length cc2) := x3.cell 1
      have d0 : V0.cell? ⟨wr.heap.size, 0, none⟩ = some (.int .u32 0) := kc.cell 0
      have d1 : V0.cell? ⟨wr.heap.size, 0 + 1, none⟩ = some (.bool true) := kc.cell 1
      have d2 : V0.cell? ⟨wr.heap.size, 0 + 1 + 1, none⟩ = some (.int .i64 (fuel - a.steps)) := kc.cell 2
      have HEX := Lib.hid (exec_is arsA codeA qa2 ca2 arsC codeC cq2 cc2 ars regs spills cd a.arr a.ctx 0 true (fuel - a.steps) V0 Y.heap.size HCK.out HARG.out HGD.out.fit (by omega) HGD.out.ua HGD.out.uc ⟨by omega, by omega⟩ x2 ((HARS.out.below x5).mono x5.size) ((HCD.out.below x5).mono x5.size) x4)
      have HB0 := Lib.hid (And.intro hb0 x5)
      clear x1 x2 x3 x4 x5 hb0 kc r3 rlt
      go_wp2_with fail
      refine HEX.out.mono ?_
      rintro e V1 ⟨hb1, hpost⟩
      clear HEX c0 c1 c2 c3 m0 m1 d0 d1 d2
      have HB1 := Lib.hid hb1
      cases hr : machRun ars regs spills cd a.arr a.ctx 0 true (fuel - a.steps) with
      | error n =>
        rw [hr] at hpost
        replace hpost : e = .returned (.tuple #[.agg #[.slice none 0 0, .slice none 0 0, .slice none 0 0, .int .i64 0], .int .i64 n]) := hpost
        subst hpost
        have hn0 : (n != 0) = true := by simpa using NeedsErr hr
        have hRn : R = .error n := by first | (rw [HSTEP.out, HIN.out, hr]; rfl) | (rw [HSTEP.out, hr]; rfl)
        have HRN := Lib.hid hRn
        clear hr hRn hb1
        go_upto_region 18 with (fail)
        refine wp_gen (fun V2 => Below w.heap.size w V2 ∧ Blk V2 (w.heap.size + 1) zeroRun 49) ?_ ?_
        · have hwv := HB0.out.2.trans (HB1.out.mono HB0.out.2.size)
          exact ⟨hwv.alloc hwv.size _, ((HF.out.res.below HB0.out.1 HF.out.res.lt).below HB1.out (Nat.lt_of_lt_of_le HF.out.res.lt HB0.out.1.size)).below ((Below.refl _ _).alloc (Nat.le_refl _) _) (Nat.lt_of_lt_of_le (Nat.lt_of_lt_of_le HF.out.res.lt HB0.out.1.size) HB1.out.size)⟩
        rintro V2 ⟨hb2, kz⟩
        have z0 : V2.cell? ⟨w.heap.size + 1, 0, none⟩ = some (.slice none 0 0) := kz.cell 0
        have z1 : V2.cell? ⟨w.heap.size + 1, 0 + 1, none⟩ = some (.slice none 0 0) := kz.cell 1
        have z2 : V2.cell? ⟨w.heap.size + 1, 0 + 1 + 1, none⟩ = some (.slice none 0 0) := kz.cell 2
        have z3 : V2.cell? ⟨w.heap.size + 1, 0 + 1 + 1 + 1, none⟩ = some (.int .i64 0) := kz.cell 3
        have f0 := kz.frozen 0
        have f1 := kz.frozen (0 + 1)
        have f2 := kz.frozen (0 + 1 + 1)
        have f3 := kz.frozen (0 + 1 + 1 + 1)
        have HB2 := Lib.hid hb2
        clear hb2
        go_wp2
        refine bodyPost_ret (v := .tuple #[.agg #[.slice none 0 0, .slice none 0 0, .slice none 0 0, .int .i64 0], .int .i64 n]) ?_ rfl ?_
        · have e0 := ((((kz.set 0 (.slice none 0 0)).set 1 (.slice none 0 0)).set 2 (.slice none 0 0)).set 3 (.int .i64 0))
          have y0 := e0.cell 0
          have y1 := e0.cell 1
          have y2 := e0.cell 2
          have y3 := e0.cell 3
          simp only [zeroRun, List.set_cons_zero, List.set_cons_succ, List.getElem?_cons_zero, List.getElem?_cons_succ] at y0 y1 y2 y3
          simp [results, Try.results25, go_sem, y0, y1, y2, y3]
        · exact feed_end HRN.out HB2.out
      | ok s =>
        rw [hr] at hpost
        obtain ⟨v, rfl, hv⟩ := hpost
        obtain ⟨qb, cqb, cb, ccb, ob, ocb, rfl, hl⟩ := lift_run hv
        have hRn : R = if 65536 < (a.out ++ s.out).length then .error 5 else feedGo ars regs spills cd data fuel (data.length + 1 - (k + 1)) (k + 1) ⟨s.arr, s.ctx, a.out ++ s.out, a.steps + s.steps⟩ := by
          first
            | (rw [HSTEP.out, HIN.out, hr]; dsimp only; split <;> rfl)
            | (rw [HSTEP.out, hr]; dsimp only; split <;> rfl)
        have hgood2 : ¬ 65536 < (a.out ++ s.out).length → FGood ars fuel ⟨s.arr, s.ctx, a.out ++ s.out, a.steps + s.steps⟩ := by
          intro hnl
          obtain ⟨n1, n2, n3, n4, n5, _, _⟩ := mach_fuel HARG.out HGD.out.ua HGD.out.uc ⟨by omega, by omega⟩ hr
          exact ⟨n3, n4, n5, by show 0 ≤ a.steps + s.steps; omega, by show a.steps + s.steps ≤ fuel; omega, by show (a.out ++ s.out).length ≤ 65536; omega⟩
        have o1 := (mach_out hr).1
        have n1 := (mach_fuel HARG.out HGD.out.ua HGD.out.uc ⟨by omega, by omega⟩ hr).1
        have n2 := (mach_fuel HARG.out HGD.out.ua HGD.out.uc ⟨by omega, by omega⟩ hr).2.1
        have hol := HGD.out.ol
        have x3 : Blk V1 X.heap.size [.slice qa2 a.arr.length cq2, .slice ca2 a.ctx.length cc2, .slice oa a.out.length oc, .int .i64 a.steps] 49 := (HF.out.all.below HB0.out.1 HF.out.all.lt).below hb1 (Nat.lt_of_lt_of_le HF.out.all.lt HB0.out.1.size)
        have lt1 : X.heap.size < V1.heap.size := x3.lt
        have HRN := Lib.hid hRn
        have HGD2 := Lib.hid hgood2
        have HL := Lib.hid hl
        have HX3 := Lib.hid x3
        clear hr hRn hgood2 hv hl hb1 x3 HSTEP
        go_upto_region 19 with (fail)
        have hcls : FeedCls X.heap.size V1.heap.size (.slice oa a.out.length oc) a.steps s.steps (V1.alloc (.cells #[.slice qb s.arr.length cqb, .slice cb s.ctx.length ccb, .slice ob s.out.length ocb, .int .i64 s.steps] 49)) := by
          have hq := HX3.out.below (w' := (V1.alloc (.cells #[.slice qb s.arr.length cqb, .slice cb s.ctx.length ccb, .slice ob s.out.length ocb, .int .i64 s.steps] 49))) ((Below.refl _ _).alloc (Nat.le_refl _) _) lt1
          exact ⟨hq.cell 2, hq.cell 3, _, heap_new1 _ _, rfl⟩
        have _inst : Nonempty (CWorld (FeedCls X.heap.size V1.heap.size (.slice oa a.out.length oc) a.steps s.steps)) := ⟨⟨_, hcls⟩⟩
        have p0 : ∀ p : CWorld (FeedCls X.heap.size V1.heap.size (.slice oa a.out.length oc) a.steps s.steps), p.w.cell? ⟨X.heap.size, 2, none⟩ = some (.slice oa a.out.length oc) := fun p => p.h.1
        have p1 : ∀ p : CWorld (FeedCls X.heap.size V1.heap.size (.slice oa a.out.length oc) a.steps s.steps), p.w.cell? ⟨X.heap.size, 3, none⟩ = some (.int .i64 a.steps) := fun p => p.h.2.1
        have p3 : ∀ p : CWorld (FeedCls X.heap.size V1.heap.size (.slice oa a.out.length oc) a.steps s.steps), p.w.cell? ⟨V1.heap.size, 3, none⟩ = some (.int .i64 s.steps) := fun p => by
          obtain ⟨l, h1, h2⟩ := p.h.2.2
          exact (h1.cell 3).trans h2
        refine wp_region_mix (Cls (FeedCls X.heap.size V1.heap.size (.slice oa a.out.length oc) a.steps s.steps)) [1, 6, 8] [0, 2, 5, 7, 9, 10, 12] [(2, 0), (2, 2), (2, 5), (2, 7), (1, 1), (1, 6), (1, 8), (2, 9), (0, 3), (0, 4), (2, 10), (0, 11), (2, 12), (0, 13)] (by kernel_rfl) (by kernel_rfl) (fun c a d v w h => by cases d <;> exact h) ⟨⟨(V1.alloc (.cells #[.slice qb s.arr.length cqb, .slice cb s.ctx.length ccb, .slice ob s.out.length ocb, .int .i64 s.steps] 49)).drew, hcls⟩, rfl⟩ ?_
        simp only [getPlan, List.filterMap_cons, List.filterMap_nil, List.getElem?_toArray, List.getElem?_cons_succ, List.getElem?_cons_zero, Option.map_some]
        repeat ((first | refine wpPlan_pure (fun K hK => ?_) | refine wpPlan_float (fun K hK => ?_)); go_simp; refine hK _ ?_; clear hK K)
        clear p0 p1 p3
        have HCLS := Lib.hid hcls
        clear hcls _inst
        have hown := own_same (w' := (V1.alloc (.cells #[.slice qb s.arr.length cqb, .slice cb s.ctx.length ccb, .slice ob s.out.length ocb, .int .i64 s.steps] 49)).drew) HF.out.out (fun k hk => by
          have h1 := (HF.out.out.lt k hk).2
          have h2 : k < V0.heap.size := Nat.lt_of_lt_of_le h1 HB0.out.1.size
          show (V1.alloc _).heap[k]? = _
          rw [Below.heap_alloc _ _ _ (Nat.lt_of_lt_of_le h2 HB1.out.size), HB1.out.block k h2, HB0.out.1.block k h1])
        have hrow : RowB (V1.alloc (.cells #[.slice qb s.arr.length cqb, .slice cb s.ctx.length ccb, .slice ob s.out.length ocb, .int .i64 s.steps] 49)).drew.heap.size (V1.alloc (.cells #[.slice qb s.arr.length cqb, .slice cb s.ctx.length ccb, .slice ob s.out.length ocb, .int .i64 s.steps] 49)).drew 1 ob s.out.length fun j _ => .int .u8 (s.out.getD j 0) :=
          (HL.out _ (by simp [World.drew]) (fun k _ hk => Below.heap_alloc _ _ _ hk)).2
        have HOWN := Lib.hid hown
        have HROW := Lib.hid hrow
        have hbase : X.heap.size + 1 ≤ (V1.alloc (.cells #[.slice qb s.arr.length cqb, .slice cb s.ctx.length ccb, .slice ob s.out.length ocb, .int .i64 s.steps] 49)).drew.heap.size := by simp [World.drew]; omega
        clear hown hrow
        refine wpPlan_keep ?_
        go_wp2_with fail
        refine ⟨⟨⟨(V1.alloc (.cells #[.slice qb s.arr.length cqb, .slice cb s.ctx.length ccb, .slice ob s.out.length ocb, .int .i64 s.steps] 49)).drew, HCLS.out⟩, rfl⟩, ?_⟩
        refine wpPlan_keep ?_
        refine wpList_app_row Try.elU8 rfl (.tmp 81) (.tmp 83) rfl (X.heap.size + 1) (.slice oa a.out.length oc) a.out.length (ints .u8 a.out) rfl HOWN.out ob s.out.length ocb (fun j => .int .u8 (s.out.getD j 0)) rfl HROW.out (fun _ => rfl) (by omega) hbase ?_
        intro va vcap V3 hown3 hg3 hat3
        have hat4 : (Value.slice va (a.out.length + s.out.length) vcap).ownBlock = (Value.slice oa a.out.length oc).ownBlock ∨ (Value.slice va (a.out.length + s.out.length) vcap).ownBlock = some (V1.heap.size + 1) := by simpa [World.drew] using hat3
        obtain ⟨y1, y2, y3, y4⟩ := feed_round HF.out HB0.out.1 HB1.out HL.out hg3 hown3 hat4
        have Y1 := Lib.hid y1
        have Y2 := Lib.hid y2
        have Y4 := Lib.hid y4
        have r2 : V3.cell? ⟨V1.heap.size, 2, none⟩ = some (.slice ob s.out.length ocb) := y1.cell 2
        have r3 : V3.cell? ⟨V1.heap.size, 3, none⟩ = some (.int .i64 s.steps) := y1.cell 3
        have f2 := y1.frozen 2
        have f3 := y1.frozen 3
        have hw3 : Below w.heap.size w V3 := by
          have hwv := HB0.out.2.trans (HB1.out.mono HB0.out.2.size)
          have hs3 := hg3.size
          refine ⟨?_, ?_, ?_, ?_, ?_⟩
          · rw [hg3.os]; exact hwv.os
          · rw [hg3.tape]; exact hwv.tape
          · rw [hg3.output]; exact hwv.output
          · have := hwv.size
            simp [World.drew] at hs3
            omega
          · intro k hk
            have h0 := hwv.size
            rw [feed_keep hg3 (by omega) (fun e => by
              have h1 := (HF.out.out.lt k e.symm).1
              have h2 := HF.out.l1
              have h3 := HF.out.l2
              omega)]
            exact hwv.block k hk
        have kz3 : Blk V3 (w.heap.size + 1) zeroRun 49 := by
          have h2 := HF.out.l1
          have h3 := HF.out.l2
          unfold Blk
          rw [feed_keep hg3 (by omega) (fun e => by have h1 := (HF.out.out.lt _ e.symm).1; omega)]
          exact (HF.out.res.below HB0.out.1 HF.out.res.lt).below HB1.out (Nat.lt_of_lt_of_le HF.out.res.lt HB0.out.1.size)
        have HW3 := Lib.hid hw3
        have KZ3 := Lib.hid kz3
        clear y1 y2 y4 hown3 hg3 hat3 hat4 HOWN HROW HCLS hw3 kz3
        have cls3 : FeedCls X.heap.size V1.heap.size (.slice oa a.out.length oc) a.steps s.steps V3 := ⟨Y2.out.cell 2, Y2.out.cell 3, _, Y1.out, rfl⟩
        have CL3 := Lib.hid cls3
        clear cls3
        refine ⟨⟨⟨V3, CL3.out⟩, rfl⟩, ?_⟩
        repeat ((first | refine wpPlan_pure (fun K hK => ?_) | refine wpPlan_float (fun K hK => ?_)); go_simp; refine hK _ ?_; clear hK K)
        refine wpPlan_keep ?_
        go_wp2_with fail
        refine ⟨⟨⟨_, CL3.out.set (Nat.ne_of_lt lt1) _⟩, rfl⟩, ?_⟩
        repeat ((first | refine wpPlan_pure (fun K hK => ?_) | refine wpPlan_float (fun K hK => ?_)); go_simp; refine hK _ ?_; clear hK K)
        refine wpPlan_sees (by kernel_rfl) ?_
        go_wp2_with fail
        refine wpPlan_nil ?_
        go_upto_region 20 with (fail)
        refine wp_gen (fun W => Blk W V1.heap.size [.slice qb s.arr.length cqb, .slice cb s.ctx.length ccb, .slice va (a.out.length + s.out.length) vcap, .int .i64 (a.steps + s.steps)] 49 ∧ Blk W X.heap.size [.slice qa2 a.arr.length cq2, .slice ca2 a.ctx.length cc2, .slice oa a.out.length oc, .int .i64 a.steps] 49 ∧ (∀ k, k ≠ V1.heap.size → W.heap[k]? = V3.heap[k]?) ∧ W.heap.size = V3.heap.size ∧ W.os = V3.os ∧ W.tape = V3.tape ∧ W.output = V3.output) ?_ ?_
        · have hne : X.heap.size ≠ V1.heap.size := Nat.ne_of_lt lt1
          exact ⟨(Y1.out.set 2 _).set 3 _, (Y2.out.other (a := ⟨V1.heap.size, 2, none⟩) hne _).other (a := ⟨V1.heap.size, 3, none⟩) hne _, fun k hk => by rw [Below.heap_setCell _ _ _ _ hk, Below.heap_setCell _ _ _ _ hk], by simp, rfl, rfl, rfl⟩
        rintro W4 ⟨ka, kb, kk, ks, ko, kt, kp⟩
        have r0 : W4.cell? ⟨V1.heap.size, 0, none⟩ = some (.slice qb s.arr.length cqb) := ka.cell 0
        have r1 : W4.cell? ⟨V1.heap.size, 0 + 1, none⟩ = some (.slice cb s.ctx.length ccb) := ka.cell 1
        have r2 : W4.cell? ⟨V1.heap.size, 0 + 1 + 1, none⟩ = some (.slice va (a.out.length + s.out.length) vcap) := ka.cell 2
        have r3 : W4.cell? ⟨V1.heap.size, 0 + 1 + 1 + 1, none⟩ = some (.int .i64 (a.steps + s.steps)) := ka.cell 3
        have b0 : W4.cell? ⟨X.heap.size, 0, none⟩ = some (.slice qa2 a.arr.length cq2) := kb.cell 0
        have b1 : W4.cell? ⟨X.heap.size, 0 + 1, none⟩ = some (.slice ca2 a.ctx.length cc2) := kb.cell 1
        have b2 : W4.cell? ⟨X.heap.size, 0 + 1 + 1, none⟩ = some (.slice oa a.out.length oc) := kb.cell 2
        have b3 : W4.cell? ⟨X.heap.size, 0 + 1 + 1 + 1, none⟩ = some (.int .i64 a.steps) := kb.cell 3
        have g0 := kb.frozen 0
        have g1 := kb.frozen (0 + 1)
        have g2 := kb.frozen (0 + 1 + 1)
        have g3 := kb.frozen (0 + 1 + 1 + 1)
        have H4 := Lib.hid (And.intro kb (And.intro kk (And.intro ks (And.intro ko (And.intro kt kp)))))
        clear ka kb kk ks ko kt kp f2 f3
        go_upto_region 21 with (fail)
        refine wp_gen (fun W => FeedAt w [.slice arsA ars.length arsC, .int .i64 regs, .int .i64 spills, .slice codeA cd.length codeC] cd Y.heap.size X.heap.size ⟨s.arr, s.ctx, a.out ++ s.out, a.steps + s.steps⟩ qb cb va cqb ccb vcap W) ?_ ?_
        · obtain ⟨kb, kk, ks, ko, kt, kp⟩ := H4.out
          refine Y4.out _ (fun k h1 h2 => ?_) ?_ ?_ ?_ ?_ ?_
          · rw [Below.heap_setCell _ _ _ _ h2, Below.heap_setCell _ _ _ _ h2, Below.heap_setCell _ _ _ _ h2, Below.heap_setCell _ _ _ _ h2]
            exact kk k h1
          · simpa using ks
          · exact ko
          · exact kt
          · exact kp
          · exact (((kb.set 0 _).set 1 _).set 2 _).set 3 _
        rintro W5 F5
        have hlen : (a.out ++ s.out).length = a.out.length + s.out.length := List.length_append
        have r2 : W5.cell? ⟨X.heap.size, 2, none⟩ = some (.slice va (a.out.length + s.out.length) vcap) := by rw [← hlen]; exact F5.all.cell 2
        have HF5 := Lib.hid F5
        clear F5 H4 r0 r1 r3 b0 b1 b2 b3 g0 g1 g2 g3
        by_cases hlong : 65536 < a.out.length + s.out.length
        · have q5 : decide ((65536 : Int) < ((a.out.length + s.out.length : Nat) : Int)) = true := by simp; omega
          have q6 : decide ((65536 : Int) < (a.out.length : Int) + (s.out.length : Int)) = true := by simp; omega
          have hRn : R = .error 5 := by rw [HRN.out, if_pos (by rw [hlen]; exact hlong)]
          have HRN2 := Lib.hid hRn
          clear hRn
          have kz := HF5.out.res
          have z0 : W5.cell? ⟨w.heap.size + 1, 0, none⟩ = some (.slice none 0 0) := kz.cell 0
          have z1 : W5.cell? ⟨w.heap.size + 1, 0 + 1, none⟩ = some (.slice none 0 0) := kz.cell 1
          have z2 : W5.cell? ⟨w.heap.size + 1, 0 + 1 + 1, none⟩ = some (.slice none 0 0) := kz.cell 2
          have z3 : W5.cell? ⟨w.heap.size + 1, 0 + 1 + 1 + 1, none⟩ = some (.int .i64 0) := kz.cell 3
          have f0 := kz.frozen 0
          have f1 := kz.frozen (0 + 1)
          have f2 := kz.frozen (0 + 1 + 1)
          have f3 := kz.frozen (0 + 1 + 1 + 1)
          go_wp2
          refine bodyPost_ret (v := .tuple #[.agg #[.slice none 0 0, .slice none 0 0, .slice none 0 0, .int .i64 0], .int .i64 5]) ?_ rfl ?_
          · have e0 := ((((kz.set 0 (.slice none 0 0)).set 1 (.slice none 0 0)).set 2 (.slice none 0 0)).set 3 (.int .i64 0))
            have y0 := e0.cell 0
            have y1 := e0.cell 1
            have y2 := e0.cell 2
            have y3 := e0.cell 3
            simp only [zeroRun, List.set_cons_zero, List.set_cons_succ, List.getElem?_cons_zero, List.getElem?_cons_succ] at y0 y1 y2 y3
            simp [results, Try.results25, go_sem, y0, y1, y2, y3]
          · exact feed_end HRN2.out HF5.out.bel
        · have q5 : decide ((65536 : Int) < ((a.out.length + s.out.length : Nat) : Int)) = false := by simp; omega
          have q6 : decide ((65536 : Int) < (a.out.length : Int) + (s.out.length : Int)) = false := by simp; omega
          have hnl : ¬ 65536 < (a.out ++ s.out).length := by rw [hlen]; exact hlong
          have hRn := HRN.out
          rw [if_neg hnl] at hRn
          have HRN2 := Lib.hid hRn
          have HNL := Lib.hid hnl
          clear hRn hnl
          go_wp2
          go_roundw
          case rel => exact ⟨k + 1, ⟨s.arr, s.ctx, a.out ++ s.out, a.steps + s.steps⟩, qb, cb, va, cqb, ccb, vcap, by first | (simp; done) | (simp; omega), by omega, HGD2.out HNL.out, HRN2.out.symm, HF5.out⟩
          case measure => simp [intOf]; omega
end Go.Proofs.Ytefdnjhhaejgbaa

namespace Go.Proofs.Ytefdnjhhaejgbaa
open Go.RowKit
set_option linter.unusedVariables false

/-- the partners so far (block ob) and the blocks that are open (v) -/
structure PMem (w : World) (ob : Nat) (out : List Int) (opn : List Nat) (v : Value) (wr : World) : Prop where
  bel : Below ob w wr
  out : Blk wr ob (ints .i64 out) 3
  own : wr.ownsRow (ob + 1) 3 1 v opn.length (natsV opn)

theorem PMem.far {w : World} {ob : Nat} {out : List Int} {opn : List Nat} {v : Value} {wr : World} (h : PMem w ob out opn v wr) : ∀ k, v.ownBlock = some k → ob + 1 ≤ k := fun k hk => (h.own.lt k hk).1
theorem PMem.below {w : World} {ob : Nat} {out : List Int} {opn : List Nat} {v : Value} {wr w1 : World} (h : PMem w ob out opn v wr) (hb : Below wr.heap.size wr w1) : PMem w ob out opn v w1 :=
  ⟨h.bel.trans (hb.mono (Nat.le_of_lt h.out.lt)), h.out.below hb h.out.lt, own_same h.own fun k hk => hb.block k (h.own.lt k hk).2⟩
theorem PMem.setOut {w : World} {ob : Nat} {out : List Int} {opn : List Nat} {v : Value} {wr : World} (h : PMem w ob out opn v wr) (i : Nat) (x : Int) : PMem w ob (out.set i x) opn v (wr.setCell ⟨ob, i, none⟩ (.int .i64 x)) := by
  refine ⟨h.bel.setCell (Nat.le_refl _) _, ?_, ?_⟩
  · have := h.out.set i (.int .i64 x)
    rw [ints_set] at this
    exact this
  · exact own_same h.own fun k hk => Below.heap_setCell _ _ _ _ (by have := h.far k hk; show k ≠ ob; omega)
theorem PMem.push {w : World} {ob : Nat} {out : List Int} {opn : List Nat} {v : Value} {wr w1 w2 : World} {k n g' c' : Nat} (h : PMem w ob out opn v wr) (hn : opn.length = n) (hb : Below wr.heap.size wr w1)
    (hown : w2.ownsRow (ob + 1) 3 1 (.slice (some ⟨g', 0, none⟩) (n + 1) c') (n + 1) (natsV opn ++ [.int .i64 (k : Int)])) (hg : w1.grownBy w2 v.ownBlock) :
    PMem w ob out (opn ++ [k]) (.slice (some ⟨g', 0, none⟩) (n + 1) c') w2 := by
  have h1 := h.below hb
  have hne : some ob ≠ v.ownBlock := fun e => by have := h.far ob e.symm; omega
  refine ⟨⟨?_, ?_, ?_, ?_, ?_⟩, h1.out.grown hg hne, ?_⟩
  · rw [hg.os]; exact h1.bel.os
  · rw [hg.tape]; exact h1.bel.tape
  · rw [hg.output]; exact h1.bel.output
  · have := hg.size; have := h1.bel.size; omega
  · intro j hj
    have := h1.out.lt
    rw [hg.block j (by omega) (fun e => by have := h.far j e.symm; omega)]
    exact h1.bel.block j hj
  · rw [natsV_snoc, List.length_append, List.length_singleton, hn]
    exact hown
theorem PMem.pop {w : World} {ob : Nat} {out : List Int} {l : List Nat} {p : Nat} {g cc : Nat} {wr : World} (h : PMem w ob out (l ++ [p]) (.slice (some ⟨g, 0, none⟩) (l.length + 1) cc) wr) : PMem w ob out l (.slice (some ⟨g, 0, none⟩) l.length cc) wr :=
  ⟨h.bel, h.out, by
    have := h.own
    rw [natsV_snoc, List.length_append, List.length_singleton] at this
    exact own_pop this (by simp [natsV])⟩
theorem PMem.outCell {w : World} {ob : Nat} {out : List Int} {opn : List Nat} {v : Value} {wr : World} (h : PMem w ob out opn v wr) {p : Nat} (hp : p < out.length) : wr.cell? ⟨ob, p, none⟩ = some (.int .i64 (out.getD p 0)) := by
  rw [h.out.cell, ints_get hp]
theorem PMem.opnCell {w : World} {ob : Nat} {out : List Int} {opn : List Nat} {va : Option Addr} {n vc : Nat} {wr : World} (h : PMem w ob out opn (.slice va n vc) wr) {m : Nat} (hm : m < opn.length) :
    ∃ g, va = some ⟨g, 0, none⟩ ∧ n = opn.length ∧ opn.length ≤ vc ∧ g < wr.heap.size ∧ wr.cell? ⟨g, m, none⟩ = some (.int .i64 (opn.getD m 0 : Nat)) := by
  have hown := h.own
  obtain ⟨g, rfl, rfl⟩ : ∃ g, va = some ⟨g, 0, none⟩ ∧ n = opn.length := by
    rcases hown.2 with ⟨h1, h2⟩ | ⟨g, cc, cur, h1, _⟩
    · omega
    · simp only [Value.slice.injEq] at h1; exact ⟨g, h1.1, h1.2.1⟩
  exact ⟨g, rfl, rfl, own_cap hown, (hown.lt g rfl).2, by rw [hown.cellAt m (by omega), natsV_get hm]⟩
theorem PMem.form {w : World} {ob : Nat} {out : List Int} {opn : List Nat} {v : Value} {wr : World} (h : PMem w ob out opn v wr) : ∃ va vc, v = .slice va opn.length vc := by
  rcases h.own.2 with ⟨h1, h2⟩ | ⟨g, cc, cur, h1, _⟩
  · exact ⟨none, 0, by rw [h1, h2]⟩
  · exact ⟨_, cc, h1⟩

theorem lrun_next {cd : List RI} {k : Nat} {out : List Int} {opn : List Nat} {r : List Int × List Nat} (hk : k < cd.length) (h : lrun cd (cd.length - k) k out opn = some r) : ∃ o p, lstep cd k out opn = some (o, p) ∧ lrun cd (cd.length - (k + 1)) (k + 1) o p = some r := by
  rw [show cd.length - k = (cd.length - (k + 1)) + 1 by omega, lrun] at h
  cases hs : lstep cd k out opn with
  | none => rw [hs] at h; cases h
  | some x => rw [hs] at h; exact ⟨x.1, x.2, rfl, h⟩
theorem lstep_length {cd : List RI} {k : Nat} {out o : List Int} {opn p : List Nat} (h : lstep cd k out opn = some (o, p)) : o.length = out.length := by
  unfold lstep at h
  repeat' split at h
  all_goals first | (cases h; done) | (cases h; rfl) | (cases h; simp)
theorem last_getD (l : List Nat) (m : Nat) (h : l.length = m + 1) : l.getLastD 0 = l.getD m 0 := by
  rw [List.getLastD_eq_getLast?, List.getLast?_eq_getElem?, h]
  simp [List.getD_eq_getElem?_getD]

def LvRel (w : World) (cd : List RI) (ob : Nat) (r : List Int × List Nat) (v i : Value) (wr : World) : Prop :=
  ∃ (k : Nat) (out : List Int) (opn : List Nat) (va : Option Addr) (vc : Nat), i = .int .i64 (k : Int) ∧ v = .slice va opn.length vc ∧ k ≤ cd.length ∧ out.length = cd.length ∧ opn.length ≤ k ∧ lrun cd (cd.length - k) k out opn = some r ∧ PMem w ob out opn (.slice va opn.length vc) wr
theorem LvRel.mk {w : World} {cd : List RI} {ob : Nat} {r : List Int × List Nat} {v i : Value} {wr : World} {k : Nat} {out : List Int} {opn : List Nat} (hi : i = .int .i64 (k : Int)) (hk : k ≤ cd.length) (hl : out.length = cd.length) (ho : opn.length ≤ k) (hr : lrun cd (cd.length - k) k out opn = some r) (h : PMem w ob out opn v wr) : LvRel w cd ob r v i wr := by
  obtain ⟨va, vc, rfl⟩ := h.form
  exact ⟨k, out, opn, va, vc, hi, rfl, hk, hl, ho, hr, h⟩

set_option maxRecDepth 100000 in
set_option maxHeartbeats 1000000 in
theorem leaves_any (a : Option Addr) (cap : Nat) (cd : List RI) (w : World) (ob : Nat) (out : List Int) (r : List Int × List Nat) (hrow : RowB ob w 5 a cd.length fun i j => (cd.getD i default).cell j) (hout : Blk w ob (ints .i64 out) 3) (hl : out.length = cd.length) (hmax : cd.length ≤ 16384)
    (hrun : lrun cd cd.length 0 out [] = some r) :
    Calls Try.prog 49 #[.slice a cd.length cap, .slice (some ⟨ob, 0, none⟩) cd.length cd.length] w fun e w' => e = .returned (.slice (some ⟨ob, 0, none⟩) cd.length cd.length) ∧ Blk w' ob (ints .i64 r.1) 3 ∧ Below ob w w' := by
  have HR := Lib.hid hrow
  have hst : LvRel w cd ob r (.slice none 0 0) (.int .i64 0) w := LvRel.mk (k := 0) (opn := []) rfl (Nat.zero_le _) hl (Nat.le_refl _) hrun ⟨Below.refl _ _, hout, World.ownsRow_nil _ _ _ _⟩
  have HST := Lib.hid hst
  clear hrow hout hl hrun hst
  go_enter Try.func49, Try.ntmps49
  go_wp2_with fail
  go_loopw [5, 6] (fun v i wr => LvRel w cd ob r v i wr) (fun _ i _ => cd.length - (intOf i).toNat)
  case atStart => exact HST.out
  case round =>
    obtain ⟨k, out, opn, va, vc, rfl, rfl, hkl, hol, hopl, hrn, PM⟩ := hrel
    clear HST
    by_cases hk : k < cd.length
    rotate_left
    · have hke : k = cd.length := by omega
      rw [hke, Nat.sub_self, lrun] at hrn
      simp only [Option.some.injEq] at hrn
      subst hrn
      have HPM := Lib.hid PM
      have q : decide ((k : Int) < (cd.length : Int)) = false := by simp; omega
      clear PM
      go_wp2
      go_ret
      exact ⟨rfl, HPM.out.out, HPM.out.bel⟩
    obtain ⟨b, off, rfl, hb, hc⟩ := HR.out k hk
    obtain ⟨o', p', hst, hnx⟩ := lrun_next hk hrn
    have hol' : o'.length = cd.length := by rw [lstep_length hst]; exact hol
    have hk' := nat_cast_ltQ hk
    have hobl := PM.out.lt
    have hbw : b < wr.heap.size := by omega
    have hc2 : wr.cell? ⟨b, off + k * 5, none⟩ = some (.int .i64 (opAt cd k)) := by
      rw [PM.bel.cell (p := ⟨b, off + k * 5, none⟩) hb]; exact hc 0 (by omega)
    obtain ⟨op, hop⟩ : ∃ op, opAt cd k = op := ⟨_, rfl⟩
    rw [hop] at hc2
    have HPM := Lib.hid PM
    have HNX := Lib.hid (And.intro hnx hol')
    have q : decide ((k : Int) < (cd.length : Int)) = true := by simp; omega
    unfold lstep at hst
    rw [hop] at hst
    clear hc hnx hol' PM hrn
    by_cases o29 : op = 29
    · rw [if_pos o29] at hst
      cases hst
      subst o29
      have HO := Lib.hid hop
      clear hop
      go_wp2_with (at_builtin; refine wpList_app1 Try.elInt rfl _ _ rfl (ob + 1) (.slice va opn.length vc) opn.length _ rfl (HPM.out.own.alloc _) wr.heap.size [.int .i64 (k : Int)] (0, 0) rfl (heap_new1 wr _) rfl (by simp [Value.oneCell']) (by omega) (by simp; omega) ?_)
      intro g' c' w' hown' hgrow hat hlt
      have PX := HPM.out.push rfl ((Below.refl _ _).alloc (Nat.le_refl _) _) hown' hgrow
      have HX := Lib.hid PX
      clear hown' hgrow hat hlt PX
      go_wp2
      go_roundw
      case rel => exact LvRel.mk (k := k + 1) (by simp) hk HNX.out.2 (by simp; omega) HNX.out.1 HX.out
      case measure => simp [intOf]; omega
    rw [if_neg o29] at hst
    have q29 : (op == 29) = false := by simpa using o29
    by_cases o31 : op = 31
    · rw [if_pos o31] at hst
      subst o31
      obtain ⟨x, hx⟩ : ∃ x, out.getD k 0 = x := ⟨_, rfl⟩
      have c0 := HPM.out.outCell (p := k) (by omega)
      rw [hx] at hst c0
      by_cases hxb : 0 ≤ x ∧ x.toNat < cd.length
      rotate_left
      · rw [if_neg hxb] at hst; cases hst
      rw [if_pos hxb] at hst
      obtain ⟨m, rfl⟩ : ∃ m : Nat, x = (m : Int) := ⟨x.toNat, by omega⟩
      rw [Int.toNat_natCast] at hst hxb
      obtain ⟨b2, off2, e2, hb2, hcm⟩ := HR.out m hxb.2
      simp only [Option.some.injEq, Addr.mk.injEq, and_true] at e2
      obtain ⟨rfl, rfl⟩ := e2
      have cm : wr.cell? ⟨b, off + m * 5, none⟩ = some (.int .i64 (opAt cd m)) := by
        rw [HPM.out.bel.cell (p := ⟨b, off + m * 5, none⟩) hb]; exact hcm 0 (by omega)
      obtain ⟨om, hom⟩ : ∃ om, opAt cd m = om := ⟨_, rfl⟩
      rw [hom] at cm hst
      have hm' := nat_cast_ltQ hxb.2
      have HXX := Lib.hid (And.intro hx hom)
      clear hcm hx hom hxb
      by_cases m29 : om = 29
      · rw [if_pos m29] at hst
        subst m29
        by_cases h0 : opn.length = 0
        · rw [if_pos h0] at hst; cases hst
        rw [if_neg h0] at hst
        cases hst
        obtain ⟨l, hl⟩ := snoc_of opn h0 0
        generalize opn.getLastD 0 = p at hl
        subst hl
        obtain ⟨g, rfl, _, hcap, hgl, _⟩ := HPM.out.opnCell (m := 0) (by simp)
        have hlen : (l ++ [p]).length = l.length + 1 := by simp
        rw [hlen] at hcap HPM hopl ⊢
        have PX := HPM.out.pop
        have HX := Lib.hid PX
        rw [List.dropLast_concat] at HNX
        have hl8 : l.length + 1 ≤ 16384 := by omega
        clear h0 hlen PX hop
        go_wp2
        go_roundw
        case rel => exact LvRel.mk (k := k + 1) (by simp) hk HNX.out.2 (by omega) HNX.out.1 HX.out
        case measure => simp [intOf]; omega
      · rw [if_neg m29] at hst
        cases hst
        have qm : (om == 29) = false := by simpa using m29
        clear hop
        go_wp2
        go_roundw
        case rel => exact LvRel.mk (k := k + 1) (by simp) hk HNX.out.2 (by omega) HNX.out.1 HPM.out
        case measure => simp [intOf]; omega
    rw [if_neg o31] at hst
    have q31 : (op == 31) = false := by simpa using o31
    by_cases o30 : op = 30
    · rw [if_pos o30] at hst
      subst o30
      by_cases h0 : opn.length ≠ 0 ∧ opn.getLastD 0 < cd.length
      rotate_left
      · rw [if_neg h0] at hst; cases hst
      rw [if_pos h0] at hst
      cases hst
      obtain ⟨m, hm⟩ : ∃ m, opn.length = m + 1 := ⟨opn.length - 1, by omega⟩
      obtain ⟨g, rfl, _, hcap, hgl, hgc⟩ := HPM.out.opnCell (m := m) (by omega)
      rw [← last_getD opn m hm] at hgc
      obtain ⟨p, hp⟩ : ∃ p, opn.getLastD 0 = p := ⟨_, rfl⟩
      rw [hp] at hgc h0 HNX
      have cp := HPM.out.outCell (p := p) (by omega)
      obtain ⟨x, hx⟩ : ∃ x, out.getD p 0 = x := ⟨_, rfl⟩
      rw [hx] at cp HNX
      have ck := HPM.out.outCell (p := k) (by omega)
      have fk := HPM.out.out.frozen k
      have hp' := nat_cast_ltQ h0.2
      have PX := HPM.out.setOut k x
      have HX := Lib.hid PX
      have HM := Lib.hid hm
      clear hop hp hx PX h0
      rw [hm] at hcap hopl ⊢
      generalize out.getD k 0 = y at ck
      go_wp2
      go_roundw
      case rel => exact LvRel.mk (k := k + 1) (by simp) hk HNX.out.2 (by omega) HNX.out.1 (by rw [← HM.out]; exact HX.out)
      case measure => simp [intOf]; omega
    rw [if_neg o30] at hst
    have q30 : (op == 30) = false := by simpa using o30
    cases hst
    clear hop
    go_wp2
    go_roundw
    case rel => exact LvRel.mk (k := k + 1) (by simp) hk HNX.out.2 (by omega) HNX.out.1 HPM.out
    case measure => simp [intOf]; omega
end Go.Proofs.Ytefdnjhhaejgbaa

namespace Go.Proofs.Ytefdnjhhaejgbaa
open Go.RowKit
set_option linter.unusedVariables false

def PPost (w : World) (cd : List RI) (R : Except Nat (List Int × List Nat)) (e : Ending) (w' : World) : Prop :=
  Below w.heap.size w w' ∧ match R with
  | .error k => e = .returned (.tuple #[.slice none 0 0, .int .i64 (k : Int), .int .i64 15])
  | .ok (out, opn) => if 0 < opn.length then e = .returned (.tuple #[.slice none 0 0, .int .i64 (cd.length : Int), .int .i64 15])
    else ∀ r, lrun cd cd.length 0 out [] = some r → e = .returned (.tuple #[.slice (some ⟨w.heap.size, 0, none⟩) cd.length cd.length, .int .i64 0, .int .i64 0]) ∧ Blk w' w.heap.size (ints .i64 r.1) 3

def PRg (w : World) (cd : List RI) (R : Except Nat (List Int × List Nat)) (v i : Value) (wr : World) : Prop :=
  ∃ (k : Nat) (out : List Int) (opn : List Nat) (nb : List NB) (va : Option Addr) (vc : Nat), i = .int .i64 (k : Int) ∧ v = .slice va opn.length vc ∧ k ≤ cd.length ∧ PRel cd k out opn nb ∧ prun cd (cd.length - k) k out opn = R ∧ PMem w w.heap.size out opn (.slice va opn.length vc) wr
theorem PRg.mk {w : World} {cd : List RI} {R : Except Nat (List Int × List Nat)} {v i : Value} {wr : World} {k : Nat} {out o : List Int} {opn p : List Nat} {nb : List NB} (hi : i = .int .i64 ((k + 1 : Nat) : Int)) (hk : k < cd.length) (h0 : PRel cd k out opn nb) (hs : pstep cd k out opn = some (o, p))
    (hr : prun cd (cd.length - k) k out opn = R) (h : PMem w w.heap.size o p v wr) : PRg w cd R v i wr := by
  obtain ⟨va, vc, rfl⟩ := h.form
  rcases pstep_nest h0 hk with ⟨e, _⟩ | ⟨o', p', nb', e, _, h3⟩
  · rw [hs] at e; cases e
  · rw [hs] at e
    cases e
    refine ⟨k + 1, o, p, nb', va, vc, hi, rfl, hk, h3, ?_, h⟩
    rw [show cd.length - k = (cd.length - (k + 1)) + 1 by omega, prun, hs] at hr
    exact hr
theorem prun_bad {cd : List RI} {k : Nat} {out : List Int} {opn : List Nat} {R : Except Nat (List Int × List Nat)} (hk : k < cd.length) (hs : pstep cd k out opn = none) (hr : prun cd (cd.length - k) k out opn = R) : R = .error k := by
  rw [show cd.length - k = (cd.length - (k + 1)) + 1 by omega, prun, hs] at hr
  exact hr.symm

theorem any_false (cd : List RI) (opn : List Nat) (h : ∀ m, m < opn.length → opAt cd (opn.getD m 0) ≠ 29) : (opn.any fun b => decide (opAt cd b = 29)) = false := by
  rw [List.any_eq_false]
  intro b hb
  obtain ⟨m, hm, rfl⟩ := List.getElem_of_mem hb
  have := h m hm
  rw [List.getD_eq_getElem?_getD, List.getElem?_eq_getElem hm, Option.getD_some] at this
  simpa using this
theorem any_true (cd : List RI) (opn : List Nat) {m : Nat} (hm : m < opn.length) (h : opAt cd (opn.getD m 0) = 29) : (opn.any fun b => decide (opAt cd b = 29)) = true := by
  rw [List.any_eq_true]
  refine ⟨opn[m], List.getElem_mem _, ?_⟩
  rw [List.getD_eq_getElem?_getD, List.getElem?_eq_getElem hm, Option.getD_some] at h
  simpa using h

set_option maxRecDepth 100000 in
set_option maxHeartbeats 1000000 in
theorem RPartners_any (a : Option Addr) (cap : Nat) (cd : List RI) (w : World) (hrow : RowB w.heap.size w 5 a cd.length fun i j => (cd.getD i default).cell j) (hmax : cd.length ≤ 16384)
    (hlv : ∀ out, prun cd cd.length 0 (List.replicate cd.length 0) [] = .ok (out, []) → ∃ r, lrun cd cd.length 0 out [] = some r) :
    Calls Try.prog 35 #[.slice a cd.length cap] w (PPost w cd (prun cd cd.length 0 (List.replicate cd.length 0) [])) := by
  have mk := run_make_int cd.length (by omega)
  have HR := Lib.hid hrow
  obtain ⟨R, hR⟩ : ∃ R, prun cd cd.length 0 (List.replicate cd.length 0) [] = R := ⟨_, rfl⟩
  rw [hR] at hlv ⊢
  have start : ∀ wr, wr = w.alloc (.cells (natsV (List.replicate cd.length 0)).toArray 3) → PRg w cd R (.slice none 0 0) (.int .i64 0) wr := by
    rintro wr rfl
    refine ⟨0, List.replicate cd.length 0, [], [], none, 0, rfl, rfl, Nat.zero_le _, prel_init cd, hR, (Below.refl _ _).alloc (Nat.le_refl _) _, ?_, World.ownsRow_nil _ _ _ _⟩
    have e : ints .i64 (List.replicate cd.length 0) = natsV (List.replicate cd.length 0) := by simp [ints, natsV]
    rw [e]
    exact heap_new1 _ _
  have HST := Lib.hid start
  have HLV := Lib.hid hlv
  clear hrow start hR hlv
  go_enter Try.func35, Try.ntmps35
  go_wp2_with fail
  go_loopw [6, 7] (fun v i wr => PRg w cd R v i wr) (fun _ i _ => cd.length - (intOf i).toNat)
  case atStart => exact HST.out _ rfl
  case round =>
    obtain ⟨k, out, opn, nb, va, vc, rfl, rfl, hkl, PR, hrn, PM⟩ := hrel
    clear HST mk
    by_cases hk : k < cd.length
    rotate_left
    · have hke : k = cd.length := by omega
      rw [hke, Nat.sub_self, prun] at hrn
      have HPM := Lib.hid PM
      have q : decide ((k : Int) < (cd.length : Int)) = false := by simp; omega
      by_cases h0 : 0 < opn.length
      · have q2 : decide (0 < (opn.length : Int)) = true := by simp; omega
        have HRN := Lib.hid hrn
        have HH0 := Lib.hid h0
        clear PM hrn PR
        go_wp2
        refine bodyPost_ret (by simp [results, Try.results35, go_sem]; try rfl) rfl ?_
        refine ⟨HPM.out.bel, ?_⟩
        rw [← HRN.out]
        simp only
        rw [if_pos HH0.out]
        first | trivial | rfl
      · have hnil : opn = [] := List.eq_nil_of_length_eq_zero (by omega)
        subst hnil
        have q2 : decide (0 < (([] : List Nat).length : Int)) = false := rfl
        obtain ⟨r, hr⟩ := HLV.out out hrn.symm
        have HLE := Lib.hid (leaves_any a cap cd wr w.heap.size out r (HR.out.below PM.bel) PM.out PR.len hmax hr)
        have HRN := Lib.hid (And.intro hrn hr)
        clear PM hrn PR hr
        go_wp2_with fail
        refine HLE.out.mono ?_
        rintro e w' ⟨rfl, hblk, hbl⟩
        have HB := Lib.hid (And.intro hblk hbl)
        clear hblk hbl
        go_wp2
        refine bodyPost_ret (by simp [results, Try.results35, go_sem]; try rfl) rfl ?_
        refine ⟨HPM.out.bel.trans HB.out.2, ?_⟩
        rw [← HRN.out.1]
        simp only
        rw [if_neg (by simp)]
        intro r2 hr2
        rw [HRN.out.2] at hr2
        cases hr2
        exact ⟨by first | trivial | rfl, HB.out.1⟩
    obtain ⟨b, off, rfl, hb, hc⟩ := HR.out k hk
    have hk' := nat_cast_ltQ hk
    have hlen := PR.len
    have q : decide ((k : Int) < (cd.length : Int)) = true := by simp; omega
    have ck := PM.outCell (p := k) (by omega)
    have fk := PM.out.frozen k
    have hobl := PM.out.lt
    have HPM := Lib.hid PM
    generalize out.getD k 0 = y0 at ck
    clear PM
    go_upto_region 7 with (fail)
    refine wp_gen (fun W => PMem w w.heap.size (out.set k (-1)) opn (.slice va opn.length vc) W) (HPM.out.setOut k (-1)) ?_
    intro W1 PM
    clear HPM ck fk hobl
    obtain ⟨o1, ho1⟩ : ∃ o1, out.set k (-1) = o1 := ⟨_, rfl⟩
    rw [ho1] at PM
    have hobl := PM.out.lt
    have hbw : b < W1.heap.size := by omega
    have hl1 : o1.length = cd.length := by rw [← ho1]; simpa using hlen
    have hc2 : W1.cell? ⟨b, off + k * 5, none⟩ = some (.int .i64 (opAt cd k)) := by
      rw [PM.bel.cell (p := ⟨b, off + k * 5, none⟩) hb]; exact hc 0 (by omega)
    have codeAt : ∀ m, m < cd.length → W1.cell? ⟨b, off + m * 5, none⟩ = some (.int .i64 (opAt cd m)) := fun m hm => by
      obtain ⟨b2, off2, e2, hb2, hcm⟩ := HR.out m hm
      simp only [Option.some.injEq, Addr.mk.injEq, and_true] at e2
      obtain ⟨rfl, rfl⟩ := e2
      rw [PM.bel.cell (p := ⟨b, off + m * 5, none⟩) hb]; exact hcm 0 (by omega)
    have HCA := Lib.hid codeAt
    obtain ⟨op, hop⟩ : ∃ op, opAt cd k = op := ⟨_, rfl⟩
    rw [hop] at hc2
    have HPM := Lib.hid PM
    have HPR := Lib.hid PR
    have HRN := Lib.hid hrn
    have HOP := Lib.hid (And.intro hop ho1)
    have hdp := PR.deep
    have hps : ∀ x, (let o := o1; let b := opn.getLastD 0
        if op = 27 ∨ op = 29 then (if opn.length = 8 then none else some (o, opn ++ [k]))
        else if op = 28 then (if opn.length = 0 ∨ opAt cd b ≠ 27 ∨ 0 ≤ o.getD b 0 then none else some (o.set b k, opn))
        else if op = 31 then (if opn.length = 0 then none else some ((if opAt cd b = 27 ∧ 0 ≤ o.getD b 0 then o.set (o.getD b 0).toNat k else o.set b k).set k b, opn.dropLast))
        else if op = 30 then (if opn.any fun b => decide (opAt cd b = 29) then some (o, opn) else none)
        else some (o, opn)) = x → pstep cd k out opn = x := fun x hx => by rw [← hx]; unfold pstep; rw [ho1, hop]
    have HPS := Lib.hid hps
    clear hc PM PR hrn codeAt hps hop ho1
    by_cases o27 : op = 27 ∨ op = 29
    · by_cases h8 : opn.length = 8
      · have HX := Lib.hid (prun_bad hk (HPS.out none (by dsimp only; rw [if_pos o27, if_pos h8])) HRN.out)
        have q8 : ((opn.length : Int) == 8) = true := by rw [h8]; rfl
        rw [h8]
        rcases o27 with rfl | rfl
        all_goals
          go_wp2
          refine bodyPost_ret (by simp [results, Try.results35, go_sem]; try rfl) rfl ?_
          exact ⟨HPM.out.bel, by rw [HX.out]⟩
      · have HX := Lib.hid (HPS.out (some (o1, opn ++ [k])) (by dsimp only; rw [if_pos o27, if_neg h8]))
        have q8 : ((opn.length : Int) == 8) = false := by simp; omega
        rcases o27 with rfl | rfl
        all_goals
          go_wp2_with (at_builtin; refine wpList_app1 Try.elInt rfl _ _ rfl (w.heap.size + 1) (.slice va opn.length vc) opn.length _ rfl (HPM.out.own.alloc _) W1.heap.size [.int .i64 (k : Int)] (0, 0) rfl (heap_new1 W1 _) rfl (by simp [Value.oneCell']) (by omega) (by simp; omega) ?_)
          intro g' c' w' hown' hgrow hat hlt
          have PX := HPM.out.push rfl ((Below.refl _ _).alloc (Nat.le_refl _) _) hown' hgrow
          have HX2 := Lib.hid PX
          clear hown' hgrow hat hlt PX
          go_wp2
          go_roundw
          case rel => exact PRg.mk (k := k) (by simp) hk HPR.out HX.out HRN.out HX2.out
          case measure => simp [intOf]; omega
    have q27 : (op == 27) = false := by simp; exact fun h => o27 (.inl h)
    have q29 : (op == 29) = false := by simp; exact fun h => o27 (.inr h)
    by_cases o28 : op = 28
    · subst o28
      by_cases h0 : opn.length = 0
      · have HX := Lib.hid (prun_bad hk (HPS.out none (by dsimp only; rw [if_neg o27, if_pos rfl, if_pos (.inl h0)])) HRN.out)
        have q0 : ((opn.length : Int) == 0) = true := by rw [h0]; rfl
        rw [h0]
        go_wp2
        refine bodyPost_ret (by simp [results, Try.results35, go_sem]; try rfl) rfl ?_
        exact ⟨HPM.out.bel, by rw [HX.out]⟩
      obtain ⟨m, hm⟩ : ∃ m, opn.length = m + 1 := ⟨opn.length - 1, by omega⟩
      obtain ⟨g, rfl, _, hcap, hgl, hgc⟩ := HPM.out.opnCell (m := m) (by omega)
      rw [← last_getD opn m hm] at hgc
      obtain ⟨p, hp⟩ : ∃ p, opn.getLastD 0 = p := ⟨_, rfl⟩
      have hpk : p < k := by
        have hmem : opn.getLastD 0 ∈ opn := by
          obtain ⟨l, hl⟩ := snoc_of opn h0 0
          generalize opn.getLastD 0 = z at hl
          rw [hl]; simp
        rw [hp] at hmem
        exact (HPR.out.lt p hmem).1
      rw [hp] at hgc
      have cpp := HCA.out p (by omega)
      have cop := HPM.out.outCell (p := p) (by omega)
      have fop := HPM.out.out.frozen p
      obtain ⟨pp, hpp⟩ : ∃ pp, opAt cd p = pp := ⟨_, rfl⟩
      obtain ⟨x, hx⟩ : ∃ x, o1.getD p 0 = x := ⟨_, rfl⟩
      rw [hpp] at cpp
      rw [hx] at cop
      have hp' := nat_cast_ltQ (show p < cd.length by omega)
      have q0 : ((opn.length : Int) == 0) = false := by rw [hm, beq_eq_false_iff_ne]; omega
      have q0' : (((m + 1 : Nat) : Int) == 0) = false := by rw [beq_eq_false_iff_ne]; omega
      have q0'' : ((m : Int) + 1 == 0) = false := by rw [beq_eq_false_iff_ne]; omega
      have hm8 : m < 8 := by omega
      by_cases hbad : pp ≠ 27 ∨ 0 ≤ x
      · have HX := Lib.hid (prun_bad hk (HPS.out none (by dsimp only; rw [if_neg o27, if_pos rfl, if_pos (.inr (by rw [hp, hpp, hx]; exact hbad))])) HRN.out)
        rw [hm]
        clear hp hpp hx
        by_cases h27 : pp = 27
        · subst h27
          have hx0 : 0 ≤ x := hbad.resolve_left (by simp)
          go_wp2
          refine bodyPost_ret (by simp [results, Try.results35, go_sem]; try rfl) rfl ?_
          exact ⟨HPM.out.bel, by rw [HX.out]⟩
        · have qp : (pp != 27) = true := by simpa using h27
          go_wp2
          refine bodyPost_ret (by simp [results, Try.results35, go_sem]; try rfl) rfl ?_
          exact ⟨HPM.out.bel, by rw [HX.out]⟩
      · have h27 : pp = 27 := Classical.byContradiction fun h => hbad (.inl h)
        have hx0 : ¬ 0 ≤ x := fun h => hbad (.inr h)
        have qx : decide (0 ≤ x) = false := by simp; omega
        have HX := Lib.hid (HPS.out (some (o1.set p k, opn)) (by dsimp only; rw [if_neg o27, if_pos rfl, if_neg (by rw [hp, hpp, hx]; rintro (h | h); exact h0 h; exact hbad h), hp]))
        have PX := HPM.out.setOut p (k : Int)
        have HX2 := Lib.hid PX
        have HM := Lib.hid hm
        subst h27
        rw [hm]
        clear hp hpp hx PX hbad hx0
        go_wp2
        go_roundw
        case rel => exact PRg.mk (k := k) (by simp) hk HPR.out HX.out HRN.out (by rw [← HM.out]; exact HX2.out)
        case measure => simp [intOf]; omega
    have q28 : (op == 28) = false := by simpa using o28
    by_cases o31 : op = 31
    · subst o31
      by_cases h0 : opn.length = 0
      · have HX := Lib.hid (prun_bad hk (HPS.out none (by dsimp only; rw [if_neg o27, if_neg o28, if_pos rfl, if_pos h0])) HRN.out)
        have q0 : ((opn.length : Int) == 0) = true := by rw [h0]; rfl
        rw [h0]
        go_wp2
        refine bodyPost_ret (by simp [results, Try.results35, go_sem]; try rfl) rfl ?_
        exact ⟨HPM.out.bel, by rw [HX.out]⟩
      obtain ⟨l, hl⟩ := snoc_of opn h0 0
      obtain ⟨p, hp⟩ : ∃ p, opn.getLastD 0 = p := ⟨_, rfl⟩
      rw [hp] at hl
      subst hl
      have hlen2 : (l ++ [p]).length = l.length + 1 := by simp
      have hpk : p < k := (HPR.out.lt p (by simp)).1
      obtain ⟨g, rfl, _, hcap, hgl, hgc⟩ := HPM.out.opnCell (m := l.length) (by omega)
      rw [hlen2] at hcap
      have hgp : (l ++ [p]).getD l.length 0 = p := by simp
      rw [hgp] at hgc
      have cpp := HCA.out p (by omega)
      have cop := HPM.out.outCell (p := p) (by omega)
      have fop := HPM.out.out.frozen p
      obtain ⟨pp, hpp⟩ : ∃ pp, opAt cd p = pp := ⟨_, rfl⟩
      obtain ⟨x, hx⟩ : ∃ x, o1.getD p 0 = x := ⟨_, rfl⟩
      rw [hpp] at cpp
      rw [hx] at cop
      have hp' := nat_cast_ltQ (show p < cd.length by omega)
      have q0 : (((l ++ [p]).length : Int) == 0) = false := by rw [hlen2, beq_eq_false_iff_ne]; omega
      have q0' : (((l.length + 1 : Nat) : Int) == 0) = false := by rw [beq_eq_false_iff_ne]; omega
      have q0'' : ((l.length : Int) + 1 == 0) = false := by rw [beq_eq_false_iff_ne]; omega
      have hm8 : l.length < 8 := by omega
      rw [hlen2]
      have HPM2 := Lib.hid (show PMem w w.heap.size o1 (l ++ [p]) (.slice (some ⟨g, 0, none⟩) (l.length + 1) vc) W1 by rw [← hlen2]; exact HPM.out)
      by_cases hsec : pp = 27 ∧ 0 ≤ x
      · obtain ⟨rfl, hx0⟩ := hsec
        obtain ⟨m, rfl⟩ : ∃ m : Nat, x = (m : Int) := ⟨x.toNat, by omega⟩
        have hmk : m < k := by
          have hg : (out.set k (-1)).getD p 0 = out.getD p 0 := by rw [getD_set, if_neg (by omega)]
          have h1 := HPR.out.back p (by simp)
          rw [← hg, HOP.out.2, hx] at h1
          have := (h1 (by omega)).2
          simpa using this
        have HX := Lib.hid (HPS.out (some ((o1.set m (k : Int)).set k (p : Int), l)) (by dsimp only; rw [if_neg o27, if_neg o28, if_pos rfl, if_neg h0, hp, hpp, hx, if_pos ⟨rfl, hx0⟩, Int.toNat_natCast, List.dropLast_concat]))
        have com := HPM.out.outCell (p := m) (by omega)
        have fom := HPM.out.out.frozen m
        have hm' := nat_cast_ltQ (show m < cd.length by omega)
        generalize o1.getD m 0 = y1 at com
        have cok := ((HPM.out.setOut m (k : Int)).outCell (p := k) (by simp; omega))
        have fok := (HPM.out.setOut m (k : Int)).out.frozen k
        generalize (o1.set m (k : Int)).getD k 0 = y2 at cok
        have HX2 := Lib.hid ((HPM2.out.setOut m (k : Int)).setOut k (p : Int)).pop
        have qx : decide ((0 : Int) ≤ (m : Int)) = true := by simp
        clear hp hpp hx h0 hgp
        go_wp2
        go_roundw
        case rel => exact PRg.mk (k := k) (by simp) hk HPR.out HX.out HRN.out HX2.out
        case measure => simp [intOf]; omega
      · have HX := Lib.hid (HPS.out (some ((o1.set p (k : Int)).set k (p : Int), l)) (by dsimp only; rw [if_neg o27, if_neg o28, if_pos rfl, if_neg h0, hp, hpp, hx, if_neg hsec, List.dropLast_concat]))
        have cok := ((HPM.out.setOut p (k : Int)).outCell (p := k) (by simp; omega))
        have fok := (HPM.out.setOut p (k : Int)).out.frozen k
        generalize (o1.set p (k : Int)).getD k 0 = y2 at cok
        have HX2 := Lib.hid ((HPM2.out.setOut p (k : Int)).setOut k (p : Int)).pop
        clear hp hpp hx h0 hgp
        by_cases h27 : pp = 27
        · subst h27
          have qx : decide ((0 : Int) ≤ x) = false := by simp; exact Int.not_le.1 fun h => hsec ⟨rfl, h⟩
          clear hsec
          go_wp2
          go_roundw
          case rel => exact PRg.mk (k := k) (by simp) hk HPR.out HX.out HRN.out HX2.out
          case measure => simp [intOf]; omega
        · have qp : (pp == 27) = false := by simpa using h27
          clear hsec
          go_wp2
          go_roundw
          case rel => exact PRg.mk (k := k) (by simp) hk HPR.out HX.out HRN.out HX2.out
          case measure => simp [intOf]; omega
    have q31 : (op == 31) = false := by simpa using o31
    by_cases o30 : op = 30
    · subst o30
      go_upto_region 29 with (fail)
      have hz : ∀ m : Nat, decide ((0 : Int) ≤ (m : Int) + 1 - 1) = true := fun m => by simp
      go_loopw [10] (fun i wz => ∃ m : Nat, i = .int .i64 ((m : Int) - 1) ∧ m ≤ opn.length ∧ (∀ j, m ≤ j → j < opn.length → opAt cd (opn.getD j 0) ≠ 29) ∧ wz = W1) (fun i _ => (intOf i + 1).toNat)
      case atStart => exact ⟨opn.length, rfl, Nat.le_refl _, fun j h1 h2 => by omega, rfl⟩
      case round =>
        obtain ⟨m, rfl, hml, hno, rfl⟩ := hrel
        cases m with
        | zero =>
          have HX := Lib.hid (prun_bad hk (HPS.out none (by
            rw [if_neg (by decide), if_neg (by decide), if_neg (by decide), if_pos trivial, any_false cd opn (fun m hm => hno m (Nat.zero_le _) hm)]
            rfl)) HRN.out)
          clear hno
          go_wp2
          refine bodyPost_ret (by simp [results, Try.results35, go_sem]; try rfl) rfl ?_
          exact ⟨HPM.out.bel, by rw [HX.out]⟩
        | succ m =>
          obtain ⟨g, rfl, _, hcap, hgl, hgc⟩ := HPM.out.opnCell (m := m) (by omega)
          obtain ⟨p, hp⟩ : ∃ p, opn.getD m 0 = p := ⟨_, rfl⟩
          have hpk : p < k := by
            have hmem : opn.getD m 0 ∈ opn := by
              rw [List.getD_eq_getElem?_getD, List.getElem?_eq_getElem (show m < opn.length by omega), Option.getD_some]
              exact List.getElem_mem _
            rw [hp] at hmem
            exact (HPR.out.lt p hmem).1
          rw [hp] at hgc
          have cpp := HCA.out p (by omega)
          obtain ⟨pp, hpp⟩ : ∃ pp, opAt cd p = pp := ⟨_, rfl⟩
          rw [hpp] at cpp
          have hp' := nat_cast_ltQ (show p < cd.length by omega)
          have hmm : (((m + 1 : Nat) : Int) - 1) = (m : Int) := by omega
          have hm' := nat_cast_ltQ (show m < opn.length by omega)
          rw [hmm]
          by_cases h29 : pp = 29
          · have HX := Lib.hid (HPS.out (some (o1, opn)) (by
              rw [if_neg (by decide), if_neg (by decide), if_neg (by decide), if_pos trivial, any_true cd opn (m := m) (by omega) (by rw [hp, hpp]; exact h29)]
              rfl))
            subst h29
            clear hno hp hpp
            go_wp2
            go_roundw
            case rel => exact PRg.mk (k := k) (by simp) hk HPR.out HX.out HRN.out HPM.out
            case measure => simp [intOf]; omega
          · have q29 : (pp != 29) = true := by simpa using h29
            have hno2 : ∀ j, m ≤ j → j < opn.length → opAt cd (opn.getD j 0) ≠ 29 := fun j h1 h2 => by
              by_cases h : j = m
              · subst h; rw [hp, hpp]; exact h29
              · exact hno j (by omega) h2
            have HNO := Lib.hid hno2
            clear hno hno2 hp hpp
            go_wp2
            go_roundw
            case rel => exact ⟨m, by simp, by omega, HNO.out, by first | trivial | rfl⟩
            case measure => simp [intOf]
    have q30 : (op == 30) = false := by simpa using o30
    have HX := Lib.hid (HPS.out (some (o1, opn)) (by dsimp only; rw [if_neg o27, if_neg o28, if_neg o31, if_neg o30]))
    go_wp2
    go_roundw
    case rel => exact PRg.mk (k := k) (by simp) hk HPR.out HX.out HRN.out HPM.out
    case measure => simp [intOf]; omega
end Go.Proofs.Ytefdnjhhaejgbaa
