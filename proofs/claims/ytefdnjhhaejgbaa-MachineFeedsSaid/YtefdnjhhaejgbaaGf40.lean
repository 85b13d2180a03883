/-
  PROVED: 'Rows.MachineFeedsSaid': MachineFeeds returns true for all code, data and fuel. No condition.
-/
import Derived.OpenShut
import Derived.ProofKit
import Derived.ShutString
import Derived.WalkKit
import Derived.Test.YtefdnjhhaejgbaaGf36
import Derived.Test.YtefdnjhhaejgbaaGf39
import Derived.Test.YtefdnjhhaejgbaaGf35
import Derived.Test.YtefdnjhhaejgbaaGf38
import Derived.Test.YtefdnjhhaejgbaaRows
set_option linter.unusedSimpArgs false
set_option linter.unusedVariables false
namespace Go.Proofs.Ytefdnjhhaejgbaa
open Go.RowKit
set_option linter.unusedVariables false
structure RFAt (w : World) (cells : List Value) (ab : Nat) (a : FS) (qa ca oa : Option Addr) (cq cc oc : Nat) (W : World) : Prop where
  bel : Below w.heap.size w W
  code : Blk W w.heap.size cells 25
  res : Blk W (w.heap.size + 1) zeroRun 49
  all : Blk W ab [.slice qa a.arr.length cq, .slice ca a.ctx.length cc, .slice oa a.out.length oc, .int .i64 a.steps] 49
  mem : ∃ B E, w.heap.size + 1 < B ∧ (ab < B ∨ E ≤ ab) ∧ E ≤ W.heap.size ∧ Lies B E W (MemRows qa ca a.arr a.ctx)
  out : W.ownsRow (ab + 1) 5 1 (.slice oa a.out.length oc) a.out.length (ints .u8 a.out)
  l1 : w.heap.size + 1 < ab
theorem rfeed_round {w Wr V0 V1 V3 : World} {cells : List Value} {ab : Nat} {a : FS} {qa ca oa qb cb ob on : Option Addr} {cq cc oc cqb ccb ocb ocn : Nat} {s : PS} (F : RFAt w cells ab a qa ca oa cq cc oc Wr)
    (hb0 : Below Wr.heap.size Wr V0) (hb1 : Below V0.heap.size V0 V1) (hl : Lies V0.heap.size V1.heap.size V1 (RunRows qb cb ob s))
    (hg : (V1.alloc (.cells #[.slice qb s.arr.length cqb, .slice cb s.ctx.length ccb, .slice ob s.out.length ocb, .int .i64 s.steps] 49)).drew.grownBy V3 (Value.slice oa a.out.length oc).ownBlock)
    (hown : V3.ownsRow (ab + 1) 5 1 (.slice on (a.out.length + s.out.length) ocn) (a.out.length + s.out.length) (ints .u8 a.out ++ (List.range s.out.length).map fun j => .int .u8 (s.out.getD j 0)))
    (hat : (Value.slice on (a.out.length + s.out.length) ocn).ownBlock = (Value.slice oa a.out.length oc).ownBlock ∨ (Value.slice on (a.out.length + s.out.length) ocn).ownBlock = some (V1.heap.size + 1)) :
    Blk V3 V1.heap.size [.slice qb s.arr.length cqb, .slice cb s.ctx.length ccb, .slice ob s.out.length ocb, .int .i64 s.steps] 49 ∧
    Blk V3 ab [.slice qa a.arr.length cq, .slice ca a.ctx.length cc, .slice oa a.out.length oc, .int .i64 a.steps] 49 ∧ ab < V1.heap.size ∧
    ∀ V4 : World, (∀ k, k ≠ V1.heap.size → k ≠ ab → V4.heap[k]? = V3.heap[k]?) → V4.heap.size = V3.heap.size → V4.os = V3.os → V4.tape = V3.tape → V4.output = V3.output →
      Blk V4 ab [.slice qb s.arr.length cqb, .slice cb s.ctx.length ccb, .slice on (a.out.length + s.out.length) ocn, .int .i64 (a.steps + s.steps)] 49 →
      RFAt w cells ab ⟨s.arr, s.ctx, a.out ++ s.out, a.steps + s.steps⟩ qb cb on cqb ccb ocn V4 := by
  have s0 := hb0.size
  have s1 := hb1.size
  have hab := F.all.lt
  have hw := F.l1
  have hrow : ∀ x, (Value.slice oa a.out.length oc).ownBlock = some x → ab + 1 ≤ x ∧ x < Wr.heap.size := fun x hx => F.out.lt x hx
  have s3 : V1.heap.size + 1 ≤ V3.heap.size := by have := hg.size; simpa [World.drew] using this
  have hne : ∀ k, k ≤ ab → some k ≠ (Value.slice oa a.out.length oc).ownBlock := fun k hk e => by have := (hrow k e.symm).1; omega
  have old : ∀ k, k ≤ ab → V3.heap[k]? = Wr.heap[k]? := fun k hk => by
    rw [feed_keep hg (by omega) (hne k hk), hb1.block k (by omega), hb0.block k (by omega)]
  have rbox : V3.heap[V1.heap.size]? = some (.cells [.slice qb s.arr.length cqb, .slice cb s.ctx.length ccb, .slice ob s.out.length ocb, .int .i64 s.steps].toArray 49 (0, 0)) := by
    rw [hg.block V1.heap.size (by simp [World.drew]) (fun e => by have := (hrow _ e.symm).2; omega)]
    exact heap_new1 _ _
  refine ⟨rbox, ?_, by omega, fun V4 hk hsz h1 h2 h3 hall => ?_⟩
  · unfold Blk; rw [old ab (Nat.le_refl _)]; exact F.all
  have hlen : (a.out ++ s.out).length = a.out.length + s.out.length := List.length_append
  have hlst : ints .u8 a.out ++ ((List.range s.out.length).map fun j => Value.int .u8 (s.out.getD j 0)) = ints .u8 (a.out ++ s.out) := by
    unfold ints
    rw [List.map_append]
    congr 1
    apply List.ext_getElem
    · simp
    · intro i h1 h2
      simp only [List.getElem_map, List.getElem_range]
      have : i < s.out.length := by simpa using h2
      rw [List.getD_eq_getElem?_getD, List.getElem?_eq_getElem this]; rfl
  have keep4 : ∀ k, k < ab → V4.heap[k]? = Wr.heap[k]? := fun k hk' => by rw [hk k (by omega) (by omega), old k (by omega)]
  refine ⟨⟨?_, ?_, ?_, ?_, ?_⟩, ?_, ?_, by rw [hlen]; exact hall, ⟨V0.heap.size, V1.heap.size, by omega, .inl (by omega), by omega, ?_⟩, ?_, hw⟩
  · rw [h1, hg.os, ← F.bel.os, ← hb0.os, ← hb1.os]; rfl
  · rw [h2, hg.tape, ← F.bel.tape, ← hb0.tape, ← hb1.tape]; rfl
  · rw [h3, hg.output, ← F.bel.output, ← hb0.output, ← hb1.output]; rfl
  · have := F.bel.size; omega
  · intro k hk'; rw [keep4 k (by omega), F.bel.block k hk']
  · unfold Blk; rw [keep4 _ (by omega)]; exact F.code
  · unfold Blk; rw [keep4 _ (by omega)]; exact F.res
  · refine (hl.imp fun W h => h.1).move fun k h5 h6 => ?_
    rw [hk k (by omega) (by omega), feed_keep hg h6 (fun e => by have := (hrow _ e.symm).2; omega)]
  · rw [hlst] at hown
    rw [hlen]
    refine ⟨hown.1, ?_⟩
    rcases hown.2 with hn | ⟨g, cap, cur, hv, hb, hgg, rest⟩
    · exact .inl hn
    · have hgo : (Value.slice on (a.out.length + s.out.length) ocn).ownBlock = some g := by rw [hv]; rfl
      have hg1 : g ≠ V1.heap.size := by
        rw [hgo] at hat
        rcases hat with e | e
        · have := (hrow g e.symm).2; omega
        · simp only [Option.some.injEq] at e; omega
      refine .inr ⟨g, cap, cur, hv, hb, ?_, rest⟩
      rw [hk g hg1 (by omega)]
      exact hgg
theorem RFAt.exec {w wr V0 : World} {cells : List Value} {ab : Nat} {a : FS} {qa ca oa : Option Addr} {cq cc oc : Nat} (F : RFAt w cells ab a qa ca oa cq cc oc wr) (hb0 : Below wr.heap.size wr V0) :
    Blk V0 w.heap.size cells 25 ∧ Blk V0 ab [.slice qa a.arr.length cq, .slice ca a.ctx.length cc, .slice oa a.out.length oc, .int .i64 a.steps] 49 ∧ MemRows qa ca a.arr a.ctx V0 ∧ Below w.heap.size w V0 := by
  refine ⟨F.code.below hb0 F.code.lt, F.all.below hb0 F.all.lt, ?_, F.bel.trans (hb0.mono F.bel.size)⟩
  obtain ⟨B, E, h1, h2, h3, h4⟩ := F.mem
  exact h4 V0 (Nat.le_trans h3 hb0.size) fun k _ hk => hb0.block k (Nat.lt_of_lt_of_le hk h3)
theorem RFAt.result {w wr w' : World} {cells : List Value} {ab : Nat} {a : FS} {qa ca oa : Option Addr} {cq cc oc : Nat} (F : RFAt w cells ab a qa ca oa cq cc oc wr) (hk : ∀ k, k ≠ w.heap.size + 1 → w'.heap[k]? = wr.heap[k]?) (hs : w'.heap.size = wr.heap.size) :
    ResAt w' a.arr a.ctx a.out a.steps (.agg #[.slice qa a.arr.length cq, .slice ca a.ctx.length cc, .slice oa a.out.length oc, .int .i64 a.steps]) := by
  have h1 := F.l1
  obtain ⟨B, E, m1, m2, m3, m4⟩ := F.mem
  have hm := m4 w' (by omega) fun k hB _ => hk k (by omega)
  have ho := own_same (w' := w') F.out fun k hx => hk k (by have := (F.out.lt k hx).1; omega)
  refine ⟨qa, cq, ca, cc, oa, oc, rfl, hm.1, hm.2, ?_⟩
  have hr := own_fits ho (by simp [ints])
  refine hr.congr fun j hj => ?_
  simp [ints, List.getD_eq_getElem?_getD, List.getElem?_eq_getElem hj]
theorem rrun_is (arsA codeA qa ca : Option Addr) (arsC codeC cq cc : Nat) (ars : List Ar) (regs spills : Int) (cd : List RI) (arr : List (List Int)) (ctx : List Int) (input : Int) (ended : Bool) (fuel : Int) (w : World)
    (hchk : (chkCode ars regs spills cd).2 = 0) (harg : ∀ i ∈ cd, 0 ≤ i.arg ∧ i.arg < 4294967296) (hf : fitsB ars arr ctx.length = true) (hF : 0 ≤ fuel ∧ fuel ≤ 281474976710656) (ha : ∀ a ∈ arr, u32s a) (hc : u32s ctx) (hi : u32 input)
    (hars : RowB w.heap.size w 2 arsA ars.length fun i j => (ars.getD i default).cell j) (hcd : RowB w.heap.size w 5 codeA cd.length fun i j => (cd.getD i default).cell j) (hm : MemRows qa ca arr ctx w) :
    Calls Try.prog 40 #[.agg #[.slice arsA ars.length arsC, .int .i64 regs, .int .i64 spills, .slice codeA cd.length codeC], .agg #[.slice qa arr.length cq, .slice ca ctx.length cc], .agg #[.int .u32 input, .bool ended, .int .i64 fuel]] w
      (ExecPost w (machRun ars regs spills cd arr ctx input ended fuel)) := by
  have G := chk_good hchk
  obtain ⟨t, R⟩ := good_tree G harg input ended fuel
  have I := init_inv (input := input) (ended := ended) (fuel := fuel) G hf ha hc hi hF t
  have hrr : machRun ars regs spills cd arr ctx input ended fuel = outRes cd.length (t.run (mkMC ars regs spills cd input ended fuel) ((mkMC ars regs spills cd input ended fuel).init arr ctx)) := by
    rw [mach_is input ended hchk hf hF]
    exact mres_tree R rfl rfl I
  have hnz := fits_nz G hf
  obtain ⟨f1, f2, f3⟩ := fits_lens hf
  have e1 : (regs.toNat : Int) = regs := Int.toNat_of_nonneg G.hregs.1
  have e2 : (spills.toNat : Int) = spills := Int.toNat_of_nonneg G.hspl.1
  have hnA := G.hnA
  have hrun := rrun_any (mkMC ars regs spills cd input ended fuel) t R arr ctx I.fine arsA codeA qa ca arsC codeC cq cc w hcd hars (hm.1.toAt fun a ha => (hnz a ha).1) (hm.2.nums (by omega)) (by omega) hnz (by omega)
  simp only [mkMC, e1, e2] at hrun hrr
  rw [← hrr] at hrun
  exact hrun
set_option maxRecDepth 100000 in
set_option maxHeartbeats 1000000 in
theorem RFeed_main (arsA codeA dA : Option Addr) (arsC codeC dC : Nat) (ars : List Ar) (regs spills : Int) (cd : List RI) (data : List Int) (fuel : Int) (w : World)
    (hars : RowB w.heap.size w 2 arsA ars.length fun i j => (ars.getD i default).cell j) (hcd : RowB w.heap.size w 5 codeA cd.length fun i j => (cd.getD i default).cell j) (hdat : RowB w.heap.size w 1 dA data.length fun j _ => .int .u8 (data.getD j 0))
    (hA : ars.length ≤ 9223372036854775807) (hC : cd.length ≤ 9223372036854775807) (harg : ∀ i ∈ cd, 0 ≤ i.arg ∧ i.arg < 4294967296) (hd8 : ∀ n ∈ data, 0 ≤ n ∧ n < 256) (hchk : (chkCode ars regs spills cd).2 = 0) (hdl : data.length ≤ 65536) (hfu : 0 ≤ fuel ∧ fuel ≤ 281474976710656) :
    Calls Try.prog 26 #[.agg #[.slice arsA ars.length arsC, .int .i64 regs, .int .i64 spills, .slice codeA cd.length codeC], .slice dA data.length dC, .int .i64 fuel] w (FeedPost w (feedRes ars regs spills cd data fuel)) := by
  have G := chk_good hchk
  obtain ⟨R, hR⟩ : ∃ R, feedRes ars regs spills cd data fuel = R := ⟨_, rfl⟩
  rw [hR]
  rw [feedRes_ok hchk hdl hfu] at hR
  have HR := Lib.hid hR
  have HARS := Lib.hid hars
  have HCD := Lib.hid hcd
  have HDAT := Lib.hid hdat
  have HARG := Lib.hid harg
  have HD8 := Lib.hid hd8
  have HCK := Lib.hid hchk
  have HG := Lib.hid G
  have qd : decide ((65536 : Int) < (data.length : Int)) = false := by simp; omega
  have qf0 : decide (fuel < 0) = false := by simp; omega
  have qf1 : decide (281474976710656 < fuel) = false := by simp; omega
  obtain ⟨hf0, hf1⟩ := hfu
  clear hars hcd hdat harg hd8 hchk G hR
  go_enter Try.func26, Try.ntmps26
  go_upto_region 1 with (fail)
  refine wp_gen _ (feed_boxes w [.slice arsA ars.length arsC, .int .i64 regs, .int .i64 spills, .slice codeA cd.length codeC]) ?_
  rintro W ⟨hbW, k1, k2, hsz⟩
  have HCH := Lib.hid (RCheck_any arsA codeA arsC codeC ars regs spills cd W ((HARS.out.below hbW).mono hbW.size) ((HCD.out.below hbW).mono hbW.size) hA hC HARG.out)
  have a0 : W.cell? ⟨w.heap.size, 0, none⟩ = some (.slice arsA ars.length arsC) := k1.cell 0
  have a1 : W.cell? ⟨w.heap.size, 0 + 1, none⟩ = some (.int .i64 regs) := k1.cell 1
  have a2 : W.cell? ⟨w.heap.size, 0 + 1 + 1, none⟩ = some (.int .i64 spills) := k1.cell 2
  have a3 : W.cell? ⟨w.heap.size, 0 + 1 + 1 + 1, none⟩ = some (.slice codeA cd.length codeC) := k1.cell 3
  have HW := Lib.hid (And.intro hbW (And.intro k1 k2))
  clear hbW k1 k2
  go_wp2_with fail
  refine HCH.out.mono ?_
  rintro e Y ⟨⟨at_, he⟩, hbY⟩
  rw [HCK.out] at he
  subst he
  obtain ⟨hbW, k1, k2⟩ := HW.out
  have kY1 := k1.below hbY k1.lt
  have kY2 := k2.below hbY k2.lt
  have y0 : Y.cell? ⟨w.heap.size, 0, none⟩ = some (.slice arsA ars.length arsC) := kY1.cell 0
  have hwY : Below w.heap.size w Y := hbW.trans (hbY.mono hbW.size)
  have hlY : w.heap.size + 1 < Y.heap.size := kY2.lt
  have HST := Lib.hid (zero_any arsA arsC ars Y ((HARS.out.below hwY).mono hwY.size) HG.out.hnA HG.out.hars)
  have HY := Lib.hid (And.intro hwY (And.intro kY1 kY2))
  clear hbY hbW k1 k2 kY1 kY2 hwY a0 a1 a2 a3 HW HCH hsz
  go_wp2_with fail
  refine HST.out.mono ?_
  rintro e X hX
  obtain ⟨qa, cq, ca, cc, rfl, hlie, hbX⟩ := lift_copy hX
  obtain ⟨ms, hms⟩ : ∃ ms, zeros ars = ms := ⟨_, rfl⟩
  obtain ⟨cx, hcx⟩ : ∃ cx : List Int, List.replicate 16 0 = cx := ⟨_, rfl⟩
  have hfit := zeros_fit HG.out.hars
  have hzu := zeros_u32 ars
  have hcu := u32s_rep 16
  rw [hms, hcx] at hlie ⊢
  have hgood : FGood ars fuel ⟨ms, cx, [], 0⟩ := ⟨by rw [← hms, ← hcx]; exact hfit, by rw [← hms]; exact hzu, by rw [← hcx]; exact hcu, Int.le_refl _, hf0, by simp⟩
  have hgo := HR.out
  rw [hms, hcx] at hgo
  have HGO := Lib.hid (And.intro hgood hgo)
  have HX := Lib.hid (And.intro hlie hbX)
  clear hX hlie hbX hms hcx hfit hzu hcu hgood hgo HST y0
  go_upto_region 9 with (fail)
  refine wp_gen (fun W => RFAt w [.slice arsA ars.length arsC, .int .i64 regs, .int .i64 spills, .slice codeA cd.length codeC] X.heap.size ⟨ms, cx, [], 0⟩ qa ca none cq cc 0 W) ?_ ?_
  · obtain ⟨hlie, hbX⟩ := HX.out
    obtain ⟨hwZ, kZ1, kZ2⟩ := HY.out
    have hbb : Below X.heap.size X (X.alloc (.cells #[.slice qa ms.length cq, .slice ca cx.length cc, .slice none 0 0, .int .i64 0] 49)) := (Below.refl _ _).alloc (Nat.le_refl _) _
    have hsX := hbX.size
    have hb2 := hbX.trans (hbb.mono hbX.size)
    refine ⟨hwZ.trans (hb2.mono hwZ.size), kZ1.below hb2 kZ1.lt, kZ2.below hb2 kZ2.lt, heap_new1 _ _, ⟨Y.heap.size, X.heap.size, hlY, .inr (Nat.le_refl _), by simp, hlie.move fun k _ hk => Below.heap_alloc _ _ _ hk⟩, World.ownsRow_nil _ _ _ _, by omega⟩
  rintro W1 F1
  have HF1 := Lib.hid F1
  have hlX : w.heap.size + 1 < X.heap.size := F1.l1
  clear F1 HX HY
  go_wp2_with fail
  go_loopw [11] (fun i wr => ∃ (k : Nat) (a : FS) (qa ca oa : Option Addr) (cq cc oc : Nat), i = .int .i64 (k : Int) ∧ k ≤ data.length + 1 ∧ FGood ars fuel a ∧ feedGo ars regs spills cd data fuel (data.length + 1 - k) k a = R ∧ RFAt w [.slice arsA ars.length arsC, .int .i64 regs, .int .i64 spills, .slice codeA cd.length codeC] X.heap.size a qa ca oa cq cc oc wr) (fun i _ => data.length + 1 - (intOf i).toNat)
  case atStart => exact ⟨0, ⟨ms, cx, [], 0⟩, qa, ca, none, cq, cc, 0, rfl, Nat.zero_le _, HGO.out.1, HGO.out.2, HF1.out⟩
  case round =>
    obtain ⟨k, a, qa2, ca2, oa, cq2, cc2, oc, rfl, hk, hgd, hgo, F⟩ := hrel
    have HF := Lib.hid F
    have HGD := Lib.hid hgd
    have HGO2 := Lib.hid hgo
    clear HGO HF1 hgo
    by_cases hlt : k < data.length + 1
    rotate_left
    · have hke : k = data.length + 1 := by omega
      have q : decide ((k : Int) ≤ (data.length : Int)) = false := by simp; omega
      have q1 : decide (k ≤ data.length) = false := by simp; omega
      have q2 : data.length < k := by omega
      have q3 : (data.length : Int) < (k : Int) := by omega
      have hRn : R = .ok a := by rw [← HGO2.out, hke, Nat.sub_self]; rfl
      have HRN := Lib.hid hRn
      have kz := F.res
      have r0 : wr.cell? ⟨X.heap.size, 0, none⟩ = some (.slice qa2 a.arr.length cq2) := F.all.cell 0
      have r1 : wr.cell? ⟨X.heap.size, 0 + 1, none⟩ = some (.slice ca2 a.ctx.length cc2) := F.all.cell 1
      have r2 : wr.cell? ⟨X.heap.size, 0 + 1 + 1, none⟩ = some (.slice oa a.out.length oc) := F.all.cell 2
      have r3 : wr.cell? ⟨X.heap.size, 0 + 1 + 1 + 1, none⟩ = some (.int .i64 a.steps) := F.all.cell 3
      have z0 : wr.cell? ⟨w.heap.size + 1, 0, none⟩ = some (.slice none 0 0) := kz.cell 0
      have z1 : wr.cell? ⟨w.heap.size + 1, 0 + 1, none⟩ = some (.slice none 0 0) := kz.cell 1
      have z2 : wr.cell? ⟨w.heap.size + 1, 0 + 1 + 1, none⟩ = some (.slice none 0 0) := kz.cell 2
      have z3 : wr.cell? ⟨w.heap.size + 1, 0 + 1 + 1 + 1, none⟩ = some (.int .i64 0) := kz.cell 3
      have f0 := kz.frozen 0
      have f1 := kz.frozen (0 + 1)
      have f2 := kz.frozen (0 + 1 + 1)
      have f3 := kz.frozen (0 + 1 + 1 + 1)
      clear hRn hke F hgd hlt
      go_wp2
      refine bodyPost_ret (v := .tuple #[.agg #[.slice qa2 a.arr.length cq2, .slice ca2 a.ctx.length cc2, .slice oa a.out.length oc, .int .i64 a.steps], .int .i64 0]) ?_ rfl ?_
      · have e0 := ((((kz.set 0 (.slice qa2 a.arr.length cq2)).set 1 (.slice ca2 a.ctx.length cc2)).set 2 (.slice oa a.out.length oc)).set 3 (.int .i64 a.steps))
        have y0 := e0.cell 0
        have y1 := e0.cell 1
        have y2 := e0.cell 2
        have y3 := e0.cell 3
        simp only [zeroRun, List.set_cons_zero, List.set_cons_succ, List.getElem?_cons_zero, List.getElem?_cons_succ] at y0 y1 y2 y3
        simp [results, Try.results26, go_sem, y0, y1, y2, y3]
      · rw [HRN.out]
        have hx : w.heap.size ≤ w.heap.size + 1 := by omega
        refine ⟨(((HF.out.bel.setCell hx _).setCell hx _).setCell hx _).setCell hx _, _, rfl, HF.out.result (fun k hk => ?_) (by simp)⟩
        rw [Below.heap_setCell _ _ _ _ hk, Below.heap_setCell _ _ _ _ hk, Below.heap_setCell _ _ _ _ hk, Below.heap_setCell _ _ _ _ hk]
    have q : decide ((k : Int) ≤ (data.length : Int)) = true := by simp; omega
    have r3 : wr.cell? ⟨X.heap.size, 3, none⟩ = some (.int .i64 a.steps) := F.all.cell 3
    have rlt : X.heap.size < wr.heap.size := F.all.lt
    have st0 := hgd.s0
    have st1 := hgd.s1
    clear F hgd
    have hcase : k < data.length ∨ k = data.length := by omega
    obtain ⟨inp, hinp⟩ : ∃ inp, data.getD k 0 = inp := ⟨_, rfl⟩
    have hi8 : 0 ≤ inp ∧ inp < 256 := by
      rw [← hinp, List.getD_eq_getElem?_getD]
      cases hkd : data[k]? with
      | none => exact ⟨by decide, by decide⟩
      | some x => exact HD8.out x (List.mem_of_getElem? hkd)
    obtain ⟨i0, i1⟩ := hi8
    have i32 : u32 inp := ⟨i0, by omega⟩
    rcases hcase with hkd | hkd
    · have e1 : ((k : Int) == (data.length : Int)) = false := by first | (simp; omega) | (subst hkd; simp)
      have e2 : decide ((k : Int) < (data.length : Int)) = true := by simp; omega
      have hin0 : inp = inp := by
        first
          | rfl
          | (rw [← hinp, hkd, List.getD_eq_getElem?_getD, List.getElem?_eq_none (Nat.le_refl _)]; rfl)
      have hdec : decide (k = data.length) = false := by first | (simp; omega) | (simpa using hkd)
      have hstep := feedGo_step (ars := ars) (regs := regs) (spills := spills) (cd := cd) (data := data) (fuel := fuel) (k := k) (a := a) hlt
      rw [HGO2.out] at hstep
      have HSTEP := Lib.hid hstep
      have HIN := Lib.hid (And.intro hinp (And.intro hdec (show inp = inp ∧ u32 inp from ⟨hin0, hin0 ▸ i32⟩)))
      clear hstep hin0 hdec
      obtain ⟨db, doff, hdA, hdb, hdc⟩ := HDAT.out k hkd
      have hwr : Below w.heap.size w wr := HF.out.bel
      have dc : wr.cell? ⟨db, doff + k, none⟩ = some (.int .u8 inp) := by
        rw [hwr.cell (p := ⟨db, doff + k, none⟩) hdb, ← hinp]
        simpa using hdc 0 (by omega)
      have dlt : db < wr.heap.size := Nat.lt_of_lt_of_le hdb hwr.size
      have hkk := nat_cast_ltP hkd
      subst hdA
      clear hdb hdc hwr
      clear hlt hinp i32
      go_upto_region 15 with (fail)
      refine wp_gen (fun V0 => Below wr.heap.size wr V0 ∧ Blk V0 wr.heap.size [.int .u32 inp, .bool false, .int .i64 (fuel - a.steps)] 44) ⟨(Below.refl _ _).alloc (Nat.le_refl _) _, heap_new1 _ _⟩ ?_
      rintro V0 ⟨hb0, kc⟩
      obtain ⟨x1, x3, x4, x5⟩ := HF.out.exec hb0
      have c0 : V0.cell? ⟨w.heap.size, 0, none⟩ = some (.slice arsA ars.length arsC) := x1.cell 0
      have c1 : V0.cell? ⟨w.heap.size, 0 + 1, none⟩ = some (.int .i64 regs) := x1.cell 1
      have c2 : V0.cell? ⟨w.heap.size, 0 + 1 + 1, none⟩ = some (.int .i64 spills) := x1.cell 2
      have c3 : V0.cell? ⟨w.heap.size, 0 + 1 + 1 + 1, none⟩ = some (.slice codeA cd.length codeC) := x1.cell 3
      have m0 : V0.cell? ⟨X.heap.size, 0, none⟩ = some (.slice qa2 a.arr.length cq2) := x3.cell 0
      have m1 : V0.cell? ⟨X.heap.size, 0 + 1, none⟩ = some (.slice ca2 a.ctx.length cc2) := x3.cell 1
      have d0 : V0.cell? ⟨wr.heap.size, 0, none⟩ = some (.int .u32 inp) := kc.cell 0
      have d1 : V0.cell? ⟨wr.heap.size, 0 + 1, none⟩ = some (.bool false) := kc.cell 1
      have d2 : V0.cell? ⟨wr.heap.size, 0 + 1 + 1, none⟩ = some (.int .i64 (fuel - a.steps)) := kc.cell 2
      have HEX := Lib.hid (rrun_is arsA codeA qa2 ca2 arsC codeC cq2 cc2 ars regs spills cd a.arr a.ctx inp false (fuel - a.steps) V0 HCK.out HARG.out HGD.out.fit (by omega) HGD.out.ua HGD.out.uc HIN.out.2.2.2 ((HARS.out.below x5).mono x5.size) ((HCD.out.below x5).mono x5.size) x4)
      have HB0 := Lib.hid (And.intro hb0 x5)
      clear x1 x3 x4 x5 hb0 kc r3
      go_wp2_with fail
      refine HEX.out.mono ?_
      rintro e V1 ⟨hb1, hpost⟩
      clear HEX c0 c1 c2 c3 m0 m1 d0 d1 d2
      have HB1 := Lib.hid hb1
      have hl1 : wr.heap.size < V1.heap.size + 1 := by have h1 := HB0.out.1.size; have h2 := hb1.size; omega
      cases hr : machRun ars regs spills cd a.arr a.ctx inp false (fuel - a.steps) with
      | error n =>
        rw [hr] at hpost
        replace hpost : e = .returned (.tuple #[.agg #[.slice none 0 0, .slice none 0 0, .slice none 0 0, .int .i64 0], .int .i64 n]) := hpost
        subst hpost
        have hn0 : (n != 0) = true := by simpa using NeedsErr hr
        have hRn : R = .error n := by
          rw [HSTEP.out]
          unfold feedStep
          first
            | (rw [HIN.out.1, HIN.out.2.1, HIN.out.2.2.1, hr]; rfl)
            | (rw [HIN.out.1, HIN.out.2.1, hr]; rfl)
        have HRN := Lib.hid hRn
        have kz0 := (HF.out.res.below HB0.out.1 HF.out.res.lt).below hb1 (Nat.lt_of_lt_of_le HF.out.res.lt HB0.out.1.size)
        have hwv := HB0.out.2.trans (hb1.mono HB0.out.2.size)
        have HKZ := Lib.hid (And.intro kz0 hwv)
        clear hr hRn hb1 kz0 hwv
        go_upto_region 16 with (fail)
        refine wp_gen (fun W => Below w.heap.size w W ∧ Blk W (w.heap.size + 1) zeroRun 49) ?_ ?_
        · exact ⟨HKZ.out.2.alloc HKZ.out.2.size _, HKZ.out.1.below ((Below.refl _ _).alloc (Nat.le_refl _) _) HKZ.out.1.lt⟩
        rintro V2 ⟨hb2, kz⟩
        have H2' := Lib.hid hb2
        have z0 : V2.cell? ⟨w.heap.size + 1, 0, none⟩ = some (.slice none 0 0) := kz.cell 0
        have z1 : V2.cell? ⟨w.heap.size + 1, 0 + 1, none⟩ = some (.slice none 0 0) := kz.cell 1
        have z2 : V2.cell? ⟨w.heap.size + 1, 0 + 1 + 1, none⟩ = some (.slice none 0 0) := kz.cell 2
        have z3 : V2.cell? ⟨w.heap.size + 1, 0 + 1 + 1 + 1, none⟩ = some (.int .i64 0) := kz.cell 3
        have f0 := kz.frozen 0
        have f1 := kz.frozen (0 + 1)
        have f2 := kz.frozen (0 + 1 + 1)
        have f3 := kz.frozen (0 + 1 + 1 + 1)
        clear hb2
        go_wp2
        refine bodyPost_ret (v := .tuple #[.agg #[.slice none 0 0, .slice none 0 0, .slice none 0 0, .int .i64 0], .int .i64 n]) ?_ rfl ?_
        · have e0 := ((((kz.set 0 (.slice none 0 0)).set 1 (.slice none 0 0)).set 2 (.slice none 0 0)).set 3 (.int .i64 0))
          have y0 := e0.cell 0
          have y1 := e0.cell 1
          have y2 := e0.cell 2
          have y3 := e0.cell 3
          simp only [zeroRun, List.set_cons_zero, List.set_cons_succ, List.getElem?_cons_zero, List.getElem?_cons_succ] at y0 y1 y2 y3
          simp [results, Try.results26, go_sem, y0, y1, y2, y3]
        · exact feed_end HRN.out H2'.out
      | ok s =>
        rw [hr] at hpost
        obtain ⟨v, rfl, hv⟩ := hpost
        obtain ⟨qb, cqb, cb, ccb, ob, ocb, rfl, hl⟩ := lift_run hv
        have hr2 : machRun ars regs spills cd a.arr a.ctx (data.getD k 0) (decide (k = data.length)) (fuel - a.steps) = .ok s := by
          first
            | (rw [HIN.out.1, HIN.out.2.1, HIN.out.2.2.1]; exact hr)
            | (rw [HIN.out.1, HIN.out.2.1]; exact hr)
        have n12 := mach_fuel HARG.out HGD.out.ua HGD.out.uc HIN.out.2.2.2 hr
        have n1 := n12.1
        have n2 := n12.2.1
        have hstp : feedStep ars regs spills cd data fuel k a = if 65536 < (a.out ++ s.out).length then .error 5 else .ok ⟨s.arr, s.ctx, a.out ++ s.out, a.steps + s.steps⟩ := by
          unfold feedStep
          rw [hr2]
        have hgood2 : ¬ 65536 < (a.out ++ s.out).length → FGood ars fuel ⟨s.arr, s.ctx, a.out ++ s.out, a.steps + s.steps⟩ := fun h => feedStep_good HARG.out HD8.out HGD.out (k := k) (regs := regs) (spills := spills) (data := data) (by rw [hstp, if_neg h])
        have o1 := (mach_out hr).1
        have hol := HGD.out.ol
        have x3 : Blk V1 X.heap.size [.slice qa2 a.arr.length cq2, .slice ca2 a.ctx.length cc2, .slice oa a.out.length oc, .int .i64 a.steps] 49 := (HF.out.all.below HB0.out.1 rlt).below hb1 (Nat.lt_of_lt_of_le rlt HB0.out.1.size)
        have lt1 : X.heap.size < V1.heap.size := x3.lt
        have HNX := Lib.hid (And.intro hgood2 hstp)
        have HL := Lib.hid hl
        have HX3 := Lib.hid x3
        clear hr hr2 hstp hgood2 n12 hv hl hb1 x3
        go_upto_region 18 with (fail)
        have hcls : DivCls X.heap.size V1.heap.size [.slice qa2 a.arr.length cq2, .slice ca2 a.ctx.length cc2, .slice oa a.out.length oc, .int .i64 a.steps] [.slice qb s.arr.length cqb, .slice cb s.ctx.length ccb, .slice ob s.out.length ocb, .int .i64 s.steps] (V1.alloc (.cells #[.slice qb s.arr.length cqb, .slice cb s.ctx.length ccb, .slice ob s.out.length ocb, .int .i64 s.steps] 49)) := ⟨HX3.out.below ((Below.refl _ _).alloc (Nat.le_refl _) _) lt1, heap_new1 _ _⟩
        have _inst : Nonempty (CWorld (DivCls X.heap.size V1.heap.size [.slice qa2 a.arr.length cq2, .slice ca2 a.ctx.length cc2, .slice oa a.out.length oc, .int .i64 a.steps] [.slice qb s.arr.length cqb, .slice cb s.ctx.length ccb, .slice ob s.out.length ocb, .int .i64 s.steps])) := ⟨⟨_, hcls⟩⟩
        have p0 : ∀ p : CWorld (DivCls X.heap.size V1.heap.size [.slice qa2 a.arr.length cq2, .slice ca2 a.ctx.length cc2, .slice oa a.out.length oc, .int .i64 a.steps] [.slice qb s.arr.length cqb, .slice cb s.ctx.length ccb, .slice ob s.out.length ocb, .int .i64 s.steps]), p.w.cell? ⟨X.heap.size, 2, none⟩ = some (.slice oa a.out.length oc) := fun p => p.h.1.cell 2
        have p1 : ∀ p : CWorld (DivCls X.heap.size V1.heap.size [.slice qa2 a.arr.length cq2, .slice ca2 a.ctx.length cc2, .slice oa a.out.length oc, .int .i64 a.steps] [.slice qb s.arr.length cqb, .slice cb s.ctx.length ccb, .slice ob s.out.length ocb, .int .i64 s.steps]), p.w.cell? ⟨X.heap.size, 3, none⟩ = some (.int .i64 a.steps) := fun p => p.h.1.cell 3
        have p2 : ∀ p : CWorld (DivCls X.heap.size V1.heap.size [.slice qa2 a.arr.length cq2, .slice ca2 a.ctx.length cc2, .slice oa a.out.length oc, .int .i64 a.steps] [.slice qb s.arr.length cqb, .slice cb s.ctx.length ccb, .slice ob s.out.length ocb, .int .i64 s.steps]), p.w.cell? ⟨V1.heap.size, 2, none⟩ = some (.slice ob s.out.length ocb) := fun p => p.h.2.cell 2
        have p3 : ∀ p : CWorld (DivCls X.heap.size V1.heap.size [.slice qa2 a.arr.length cq2, .slice ca2 a.ctx.length cc2, .slice oa a.out.length oc, .int .i64 a.steps] [.slice qb s.arr.length cqb, .slice cb s.ctx.length ccb, .slice ob s.out.length ocb, .int .i64 s.steps]), p.w.cell? ⟨V1.heap.size, 3, none⟩ = some (.int .i64 s.steps) := fun p => p.h.2.cell 3
        have p4 : ∀ p : CWorld (DivCls X.heap.size V1.heap.size [.slice qa2 a.arr.length cq2, .slice ca2 a.ctx.length cc2, .slice oa a.out.length oc, .int .i64 a.steps] [.slice qb s.arr.length cqb, .slice cb s.ctx.length ccb, .slice ob s.out.length ocb, .int .i64 s.steps]), p.w.cell? ⟨V1.heap.size, 0, none⟩ = some (.slice qb s.arr.length cqb) := fun p => p.h.2.cell 0
        have p5 : ∀ p : CWorld (DivCls X.heap.size V1.heap.size [.slice qa2 a.arr.length cq2, .slice ca2 a.ctx.length cc2, .slice oa a.out.length oc, .int .i64 a.steps] [.slice qb s.arr.length cqb, .slice cb s.ctx.length ccb, .slice ob s.out.length ocb, .int .i64 s.steps]), p.w.cell? ⟨V1.heap.size, 0 + 1, none⟩ = some (.slice cb s.ctx.length ccb) := fun p => p.h.2.cell 1
        refine wp_region_mix (Cls (DivCls X.heap.size V1.heap.size [.slice qa2 a.arr.length cq2, .slice ca2 a.ctx.length cc2, .slice oa a.out.length oc, .int .i64 a.steps] [.slice qb s.arr.length cqb, .slice cb s.ctx.length ccb, .slice ob s.out.length ocb, .int .i64 s.steps])) [1, 3, 5, 8, 10] [0, 2, 4, 7, 9, 11] [(2, 0), (2, 2), (2, 4), (2, 7), (2, 9), (1, 1), (1, 3), (1, 5), (1, 8), (1, 10), (2, 11), (0, 6), (0, 12), (0, 13)] (by kernel_rfl) (by kernel_rfl) (fun c a d v w h => by cases d <;> exact h) ⟨⟨(V1.alloc (.cells #[.slice qb s.arr.length cqb, .slice cb s.ctx.length ccb, .slice ob s.out.length ocb, .int .i64 s.steps] 49)).drew, hcls⟩, rfl⟩ ?_
        simp only [getPlan, List.filterMap_cons, List.filterMap_nil, List.getElem?_toArray, List.getElem?_cons_succ, List.getElem?_cons_zero, Option.map_some]
        repeat ((first | refine wpPlan_pure (fun K hK => ?_) | refine wpPlan_float (fun K hK => ?_)); go_simp; refine hK _ ?_; clear hK K)
        clear p0 p1 p2 p3 p4 p5 hcls _inst
        have hown := own_same (w' := (V1.alloc (.cells #[.slice qb s.arr.length cqb, .slice cb s.ctx.length ccb, .slice ob s.out.length ocb, .int .i64 s.steps] 49)).drew) HF.out.out (fun k hk => by
          have h1 := (HF.out.out.lt k hk).2
          have h2 : k < V0.heap.size := Nat.lt_of_lt_of_le h1 HB0.out.1.size
          show (V1.alloc _).heap[k]? = _
          rw [Below.heap_alloc _ _ _ (Nat.lt_of_lt_of_le h2 HB1.out.size), HB1.out.block k h2, HB0.out.1.block k h1])
        have hrow : RowB (V1.alloc (.cells #[.slice qb s.arr.length cqb, .slice cb s.ctx.length ccb, .slice ob s.out.length ocb, .int .i64 s.steps] 49)).drew.heap.size (V1.alloc (.cells #[.slice qb s.arr.length cqb, .slice cb s.ctx.length ccb, .slice ob s.out.length ocb, .int .i64 s.steps] 49)).drew 1 ob s.out.length fun j _ => .int .u8 (s.out.getD j 0) :=
          (HL.out _ (by simp) (fun k _ hk => Below.heap_alloc _ _ _ hk)).2
        have HOWN := Lib.hid hown
        have HROW := Lib.hid hrow
        have hbase : X.heap.size + 1 ≤ (V1.alloc (.cells #[.slice qb s.arr.length cqb, .slice cb s.ctx.length ccb, .slice ob s.out.length ocb, .int .i64 s.steps] 49)).drew.heap.size := by simp; omega
        clear hown hrow
        refine wpPlan_keep ?_
        refine wpList_app_row Try.elU8 rfl (.tmp 79) (.tmp 81) rfl (X.heap.size + 1) (.slice oa a.out.length oc) a.out.length (ints .u8 a.out) rfl HOWN.out ob s.out.length ocb (fun j => .int .u8 (s.out.getD j 0)) rfl HROW.out (fun _ => rfl) (by omega) hbase ?_
        intro va vcap V3 hown3 hg3 hat3
        have hat4 : (Value.slice va (a.out.length + s.out.length) vcap).ownBlock = (Value.slice oa a.out.length oc).ownBlock ∨ (Value.slice va (a.out.length + s.out.length) vcap).ownBlock = some (V1.heap.size + 1) := by simpa using hat3
        obtain ⟨y1, y2, y3, y4⟩ := rfeed_round HF.out HB0.out.1 HB1.out HL.out hg3 hown3 hat4
        have Y1 := Lib.hid y1
        have Y2 := Lib.hid y2
        have Y4 := Lib.hid y4
        have b0 : V3.cell? ⟨X.heap.size, 0, none⟩ = some (.slice qa2 a.arr.length cq2) := y2.cell 0
        have b1 : V3.cell? ⟨X.heap.size, 0 + 1, none⟩ = some (.slice ca2 a.ctx.length cc2) := y2.cell 1
        have b2 : V3.cell? ⟨X.heap.size, 0 + 1 + 1, none⟩ = some (.slice oa a.out.length oc) := y2.cell 2
        have b3 : V3.cell? ⟨X.heap.size, 0 + 1 + 1 + 1, none⟩ = some (.int .i64 a.steps) := y2.cell 3
        have g0 := y2.frozen 0
        have g1 := y2.frozen (0 + 1)
        have g2 := y2.frozen (0 + 1 + 1)
        have g3 := y2.frozen (0 + 1 + 1 + 1)
        clear y1 y2 y4 hown3 hg3 hat3 hat4 HOWN HROW
        refine ⟨⟨⟨V3, Y2.out, Y1.out⟩, rfl⟩, ?_⟩
        refine wpPlan_tail (by kernel_rfl) ?_
        simp only [List.map_cons, List.map_nil]
        go_upto_region 19 with (fail)
        refine wp_gen (fun W => RFAt w [.slice arsA ars.length arsC, .int .i64 regs, .int .i64 spills, .slice codeA cd.length codeC] X.heap.size ⟨s.arr, s.ctx, a.out ++ s.out, a.steps + s.steps⟩ qb cb va cqb ccb vcap W) ?_ ?_
        · refine Y4.out _ (fun k _ h2 => ?_) (by simp) rfl rfl rfl ?_
          · rw [Below.heap_setCell _ _ _ _ h2, Below.heap_setCell _ _ _ _ h2, Below.heap_setCell _ _ _ _ h2, Below.heap_setCell _ _ _ _ h2]
          · exact (((Y2.out.set 0 _).set 1 _).set 2 _).set 3 _
        intro W5 F5
        have hlen : (a.out ++ s.out).length = a.out.length + s.out.length := List.length_append
        have r2 : W5.cell? ⟨X.heap.size, 2, none⟩ = some (.slice va (a.out.length + s.out.length) vcap) := by rw [← hlen]; exact F5.all.cell 2
        have HF5 := Lib.hid F5
        have HLEN := Lib.hid hlen
        clear F5 b0 b1 b2 b3 g0 g1 g2 g3 hlen
        by_cases hlong : 65536 < a.out.length + s.out.length
        · have q5 : decide ((65536 : Int) < ((a.out.length + s.out.length : Nat) : Int)) = true := by simp; omega
          have q6 : decide ((65536 : Int) < (a.out.length : Int) + (s.out.length : Int)) = true := by simp; omega
          have hRn : R = .error 5 := by rw [HSTEP.out, HNX.out.2, if_pos (by rw [HLEN.out]; exact hlong)]; rfl
          have HRN2 := Lib.hid hRn
          clear hRn
          have kz := HF5.out.res
          have z0 : W5.cell? ⟨w.heap.size + 1, 0, none⟩ = some (.slice none 0 0) := kz.cell 0
          have z1 : W5.cell? ⟨w.heap.size + 1, 0 + 1, none⟩ = some (.slice none 0 0) := kz.cell 1
          have z2 : W5.cell? ⟨w.heap.size + 1, 0 + 1 + 1, none⟩ = some (.slice none 0 0) := kz.cell 2
          have z3 : W5.cell? ⟨w.heap.size + 1, 0 + 1 + 1 + 1, none⟩ = some (.int .i64 0) := kz.cell 3
          have f0 := kz.frozen 0
          have f1 := kz.frozen (0 + 1)
          have f2 := kz.frozen (0 + 1 + 1)
          have f3 := kz.frozen (0 + 1 + 1 + 1)
          go_wp2
          refine bodyPost_ret (v := .tuple #[.agg #[.slice none 0 0, .slice none 0 0, .slice none 0 0, .int .i64 0], .int .i64 5]) ?_ rfl ?_
          · have e0 := ((((kz.set 0 (.slice none 0 0)).set 1 (.slice none 0 0)).set 2 (.slice none 0 0)).set 3 (.int .i64 0))
            have y0 := e0.cell 0
            have y1 := e0.cell 1
            have y2 := e0.cell 2
            have y3 := e0.cell 3
            simp only [zeroRun, List.set_cons_zero, List.set_cons_succ, List.getElem?_cons_zero, List.getElem?_cons_succ] at y0 y1 y2 y3
            simp [results, Try.results26, go_sem, y0, y1, y2, y3]
          · exact feed_end HRN2.out HF5.out.bel
        · have q5 : decide ((65536 : Int) < ((a.out.length + s.out.length : Nat) : Int)) = false := by simp; omega
          have q6 : decide ((65536 : Int) < (a.out.length : Int) + (s.out.length : Int)) = false := by simp; omega
          have hnl : ¬ 65536 < (a.out ++ s.out).length := by rw [HLEN.out]; exact hlong
          have hRn : feedGo ars regs spills cd data fuel (data.length + 1 - (k + 1)) (k + 1) ⟨s.arr, s.ctx, a.out ++ s.out, a.steps + s.steps⟩ = R := by rw [HSTEP.out, HNX.out.2, if_neg hnl]; rfl
          have HRN2 := Lib.hid hRn
          have HNL := Lib.hid hnl
          clear hRn hnl
          go_wp2
          go_roundw
          case rel => exact ⟨k + 1, ⟨s.arr, s.ctx, a.out ++ s.out, a.steps + s.steps⟩, qb, cb, va, cqb, ccb, vcap, by first | (simp; done) | (simp; omega), by omega, HNX.out.1 HNL.out, HRN2.out, HF5.out⟩
          case measure => simp [intOf]; omega
    · have e1 : ((k : Int) == (data.length : Int)) = true := by first | (simp; omega) | (subst hkd; simp)
      have e2 : decide ((k : Int) < (data.length : Int)) = false := by simp; omega
      have hin0 : inp = 0 := by
        first
          | rfl
          | (rw [← hinp, hkd, List.getD_eq_getElem?_getD, List.getElem?_eq_none (Nat.le_refl _)]; rfl)
      have hdec : decide (k = data.length) = true := by first | (simp; omega) | (simpa using hkd)
      have hstep := feedGo_step (ars := ars) (regs := regs) (spills := spills) (cd := cd) (data := data) (fuel := fuel) (k := k) (a := a) hlt
      rw [HGO2.out] at hstep
      have HSTEP := Lib.hid hstep
      have HIN := Lib.hid (And.intro hinp (And.intro hdec (show inp = 0 ∧ u32 0 from ⟨hin0, hin0 ▸ i32⟩)))
      clear hstep hin0 hdec
      clear hlt hinp i32
      go_upto_region 15 with (fail)
      refine wp_gen (fun V0 => Below wr.heap.size wr V0 ∧ Blk V0 wr.heap.size [.int .u32 0, .bool true, .int .i64 (fuel - a.steps)] 44) ⟨(Below.refl _ _).alloc (Nat.le_refl _) _, heap_new1 _ _⟩ ?_
      rintro V0 ⟨hb0, kc⟩
      obtain ⟨x1, x3, x4, x5⟩ := HF.out.exec hb0
      have c0 : V0.cell? ⟨w.heap.size, 0, none⟩ = some (.slice arsA ars.length arsC) := x1.cell 0
      have c1 : V0.cell? ⟨w.heap.size, 0 + 1, none⟩ = some (.int .i64 regs) := x1.cell 1
      have c2 : V0.cell? ⟨w.heap.size, 0 + 1 + 1, none⟩ = some (.int .i64 spills) := x1.cell 2
      have c3 : V0.cell? ⟨w.heap.size, 0 + 1 + 1 + 1, none⟩ = some (.slice codeA cd.length codeC) := x1.cell 3
      have m0 : V0.cell? ⟨X.heap.size, 0, none⟩ = some (.slice qa2 a.arr.length cq2) := x3.cell 0
      have m1 : V0.cell? ⟨X.heap.size, 0 + 1, none⟩ = some (.slice ca2 a.ctx.length cc2) := x3.cell 1
      have d0 : V0.cell? ⟨wr.heap.size, 0, none⟩ = some (.int .u32 0) := kc.cell 0
      have d1 : V0.cell? ⟨wr.heap.size, 0 + 1, none⟩ = some (.bool true) := kc.cell 1
      have d2 : V0.cell? ⟨wr.heap.size, 0 + 1 + 1, none⟩ = some (.int .i64 (fuel - a.steps)) := kc.cell 2
      have HEX := Lib.hid (rrun_is arsA codeA qa2 ca2 arsC codeC cq2 cc2 ars regs spills cd a.arr a.ctx 0 true (fuel - a.steps) V0 HCK.out HARG.out HGD.out.fit (by omega) HGD.out.ua HGD.out.uc HIN.out.2.2.2 ((HARS.out.below x5).mono x5.size) ((HCD.out.below x5).mono x5.size) x4)
      have HB0 := Lib.hid (And.intro hb0 x5)
      clear x1 x3 x4 x5 hb0 kc r3
      go_wp2_with fail
      refine HEX.out.mono ?_
      rintro e V1 ⟨hb1, hpost⟩
      clear HEX c0 c1 c2 c3 m0 m1 d0 d1 d2
      have HB1 := Lib.hid hb1
      have hl1 : wr.heap.size < V1.heap.size + 1 := by have h1 := HB0.out.1.size; have h2 := hb1.size; omega
      cases hr : machRun ars regs spills cd a.arr a.ctx 0 true (fuel - a.steps) with
      | error n =>
        rw [hr] at hpost
        replace hpost : e = .returned (.tuple #[.agg #[.slice none 0 0, .slice none 0 0, .slice none 0 0, .int .i64 0], .int .i64 n]) := hpost
        subst hpost
        have hn0 : (n != 0) = true := by simpa using NeedsErr hr
        have hRn : R = .error n := by
          rw [HSTEP.out]
          unfold feedStep
          first
            | (rw [HIN.out.1, HIN.out.2.1, HIN.out.2.2.1, hr]; rfl)
            | (rw [HIN.out.1, HIN.out.2.1, hr]; rfl)
        have HRN := Lib.hid hRn
        have kz0 := (HF.out.res.below HB0.out.1 HF.out.res.lt).below hb1 (Nat.lt_of_lt_of_le HF.out.res.lt HB0.out.1.size)
        have hwv := HB0.out.2.trans (hb1.mono HB0.out.2.size)
        have HKZ := Lib.hid (And.intro kz0 hwv)
        clear hr hRn hb1 kz0 hwv
        go_upto_region 16 with (fail)
        refine wp_gen (fun W => Below w.heap.size w W ∧ Blk W (w.heap.size + 1) zeroRun 49) ?_ ?_
        · exact ⟨HKZ.out.2.alloc HKZ.out.2.size _, HKZ.out.1.below ((Below.refl _ _).alloc (Nat.le_refl _) _) HKZ.out.1.lt⟩
        rintro V2 ⟨hb2, kz⟩
        have H2' := Lib.hid hb2
        have z0 : V2.cell? ⟨w.heap.size + 1, 0, none⟩ = some (.slice none 0 0) := kz.cell 0
        have z1 : V2.cell? ⟨w.heap.size + 1, 0 + 1, none⟩ = some (.slice none 0 0) := kz.cell 1
        have z2 : V2.cell? ⟨w.heap.size + 1, 0 + 1 + 1, none⟩ = some (.slice none 0 0) := kz.cell 2
        have z3 : V2.cell? ⟨w.heap.size + 1, 0 + 1 + 1 + 1, none⟩ = some (.int .i64 0) := kz.cell 3
        have f0 := kz.frozen 0
        have f1 := kz.frozen (0 + 1)
        have f2 := kz.frozen (0 + 1 + 1)
        have f3 := kz.frozen (0 + 1 + 1 + 1)
        clear hb2
        go_wp2
        refine bodyPost_ret (v := .tuple #[.agg #[.slice none 0 0, .slice none 0 0, .slice none 0 0, .int .i64 0], .int .i64 n]) ?_ rfl ?_
        · have e0 := ((((kz.set 0 (.slice none 0 0)).set 1 (.slice none 0 0)).set 2 (.slice none 0 0)).set 3 (.int .i64 0))
          have y0 := e0.cell 0
          have y1 := e0.cell 1
          have y2 := e0.cell 2
          have y3 := e0.cell 3
          simp only [zeroRun, List.set_cons_zero, List.set_cons_succ, List.getElem?_cons_zero, List.getElem?_cons_succ] at y0 y1 y2 y3
          simp [results, Try.results26, go_sem, y0, y1, y2, y3]
        · exact feed_end HRN.out H2'.out
      | ok s =>
        rw [hr] at hpost
        obtain ⟨v, rfl, hv⟩ := hpost
        obtain ⟨qb, cqb, cb, ccb, ob, ocb, rfl, hl⟩ := lift_run hv
        have hr2 : machRun ars regs spills cd a.arr a.ctx (data.getD k 0) (decide (k = data.length)) (fuel - a.steps) = .ok s := by
          first
            | (rw [HIN.out.1, HIN.out.2.1, HIN.out.2.2.1]; exact hr)
            | (rw [HIN.out.1, HIN.out.2.1]; exact hr)
        have n12 := mach_fuel HARG.out HGD.out.ua HGD.out.uc HIN.out.2.2.2 hr
        have n1 := n12.1
        have n2 := n12.2.1
        have hstp : feedStep ars regs spills cd data fuel k a = if 65536 < (a.out ++ s.out).length then .error 5 else .ok ⟨s.arr, s.ctx, a.out ++ s.out, a.steps + s.steps⟩ := by
          unfold feedStep
          rw [hr2]
        have hgood2 : ¬ 65536 < (a.out ++ s.out).length → FGood ars fuel ⟨s.arr, s.ctx, a.out ++ s.out, a.steps + s.steps⟩ := fun h => feedStep_good HARG.out HD8.out HGD.out (k := k) (regs := regs) (spills := spills) (data := data) (by rw [hstp, if_neg h])
        have o1 := (mach_out hr).1
        have hol := HGD.out.ol
        have x3 : Blk V1 X.heap.size [.slice qa2 a.arr.length cq2, .slice ca2 a.ctx.length cc2, .slice oa a.out.length oc, .int .i64 a.steps] 49 := (HF.out.all.below HB0.out.1 rlt).below hb1 (Nat.lt_of_lt_of_le rlt HB0.out.1.size)
        have lt1 : X.heap.size < V1.heap.size := x3.lt
        have HNX := Lib.hid (And.intro hgood2 hstp)
        have HL := Lib.hid hl
        have HX3 := Lib.hid x3
        clear hr hr2 hstp hgood2 n12 hv hl hb1 x3
        go_upto_region 18 with (fail)
        have hcls : DivCls X.heap.size V1.heap.size [.slice qa2 a.arr.length cq2, .slice ca2 a.ctx.length cc2, .slice oa a.out.length oc, .int .i64 a.steps] [.slice qb s.arr.length cqb, .slice cb s.ctx.length ccb, .slice ob s.out.length ocb, .int .i64 s.steps] (V1.alloc (.cells #[.slice qb s.arr.length cqb, .slice cb s.ctx.length ccb, .slice ob s.out.length ocb, .int .i64 s.steps] 49)) := ⟨HX3.out.below ((Below.refl _ _).alloc (Nat.le_refl _) _) lt1, heap_new1 _ _⟩
        have _inst : Nonempty (CWorld (DivCls X.heap.size V1.heap.size [.slice qa2 a.arr.length cq2, .slice ca2 a.ctx.length cc2, .slice oa a.out.length oc, .int .i64 a.steps] [.slice qb s.arr.length cqb, .slice cb s.ctx.length ccb, .slice ob s.out.length ocb, .int .i64 s.steps])) := ⟨⟨_, hcls⟩⟩
        have p0 : ∀ p : CWorld (DivCls X.heap.size V1.heap.size [.slice qa2 a.arr.length cq2, .slice ca2 a.ctx.length cc2, .slice oa a.out.length oc, .int .i64 a.steps] [.slice qb s.arr.length cqb, .slice cb s.ctx.length ccb, .slice ob s.out.length ocb, .int .i64 s.steps]), p.w.cell? ⟨X.heap.size, 2, none⟩ = some (.slice oa a.out.length oc) := fun p => p.h.1.cell 2
        have p1 : ∀ p : CWorld (DivCls X.heap.size V1.heap.size [.slice qa2 a.arr.length cq2, .slice ca2 a.ctx.length cc2, .slice oa a.out.length oc, .int .i64 a.steps] [.slice qb s.arr.length cqb, .slice cb s.ctx.length ccb, .slice ob s.out.length ocb, .int .i64 s.steps]), p.w.cell? ⟨X.heap.size, 3, none⟩ = some (.int .i64 a.steps) := fun p => p.h.1.cell 3
        have p2 : ∀ p : CWorld (DivCls X.heap.size V1.heap.size [.slice qa2 a.arr.length cq2, .slice ca2 a.ctx.length cc2, .slice oa a.out.length oc, .int .i64 a.steps] [.slice qb s.arr.length cqb, .slice cb s.ctx.length ccb, .slice ob s.out.length ocb, .int .i64 s.steps]), p.w.cell? ⟨V1.heap.size, 2, none⟩ = some (.slice ob s.out.length ocb) := fun p => p.h.2.cell 2
        have p3 : ∀ p : CWorld (DivCls X.heap.size V1.heap.size [.slice qa2 a.arr.length cq2, .slice ca2 a.ctx.length cc2, .slice oa a.out.length oc, .int .i64 a.steps] [.slice qb s.arr.length cqb, .slice cb s.ctx.length ccb, .slice ob s.out.length ocb, .int .i64 s.steps]), p.w.cell? ⟨V1.heap.size, 3, none⟩ = some (.int .i64 s.steps) := fun p => p.h.2.cell 3
        have p4 : ∀ p : CWorld (DivCls X.heap.size V1.heap.size [.slice qa2 a.arr.length cq2, .slice ca2 a.ctx.length cc2, .slice oa a.out.length oc, .int .i64 a.steps] [.slice qb s.arr.length cqb, .slice cb s.ctx.length ccb, .slice ob s.out.length ocb, .int .i64 s.steps]), p.w.cell? ⟨V1.heap.size, 0, none⟩ = some (.slice qb s.arr.length cqb) := fun p => p.h.2.cell 0
        have p5 : ∀ p : CWorld (DivCls X.heap.size V1.heap.size [.slice qa2 a.arr.length cq2, .slice ca2 a.ctx.length cc2, .slice oa a.out.length oc, .int .i64 a.steps] [.slice qb s.arr.length cqb, .slice cb s.ctx.length ccb, .slice ob s.out.length ocb, .int .i64 s.steps]), p.w.cell? ⟨V1.heap.size, 0 + 1, none⟩ = some (.slice cb s.ctx.length ccb) := fun p => p.h.2.cell 1
        refine wp_region_mix (Cls (DivCls X.heap.size V1.heap.size [.slice qa2 a.arr.length cq2, .slice ca2 a.ctx.length cc2, .slice oa a.out.length oc, .int .i64 a.steps] [.slice qb s.arr.length cqb, .slice cb s.ctx.length ccb, .slice ob s.out.length ocb, .int .i64 s.steps])) [1, 3, 5, 8, 10] [0, 2, 4, 7, 9, 11] [(2, 0), (2, 2), (2, 4), (2, 7), (2, 9), (1, 1), (1, 3), (1, 5), (1, 8), (1, 10), (2, 11), (0, 6), (0, 12), (0, 13)] (by kernel_rfl) (by kernel_rfl) (fun c a d v w h => by cases d <;> exact h) ⟨⟨(V1.alloc (.cells #[.slice qb s.arr.length cqb, .slice cb s.ctx.length ccb, .slice ob s.out.length ocb, .int .i64 s.steps] 49)).drew, hcls⟩, rfl⟩ ?_
        simp only [getPlan, List.filterMap_cons, List.filterMap_nil, List.getElem?_toArray, List.getElem?_cons_succ, List.getElem?_cons_zero, Option.map_some]
        repeat ((first | refine wpPlan_pure (fun K hK => ?_) | refine wpPlan_float (fun K hK => ?_)); go_simp; refine hK _ ?_; clear hK K)
        clear p0 p1 p2 p3 p4 p5 hcls _inst
        have hown := own_same (w' := (V1.alloc (.cells #[.slice qb s.arr.length cqb, .slice cb s.ctx.length ccb, .slice ob s.out.length ocb, .int .i64 s.steps] 49)).drew) HF.out.out (fun k hk => by
          have h1 := (HF.out.out.lt k hk).2
          have h2 : k < V0.heap.size := Nat.lt_of_lt_of_le h1 HB0.out.1.size
          show (V1.alloc _).heap[k]? = _
          rw [Below.heap_alloc _ _ _ (Nat.lt_of_lt_of_le h2 HB1.out.size), HB1.out.block k h2, HB0.out.1.block k h1])
        have hrow : RowB (V1.alloc (.cells #[.slice qb s.arr.length cqb, .slice cb s.ctx.length ccb, .slice ob s.out.length ocb, .int .i64 s.steps] 49)).drew.heap.size (V1.alloc (.cells #[.slice qb s.arr.length cqb, .slice cb s.ctx.length ccb, .slice ob s.out.length ocb, .int .i64 s.steps] 49)).drew 1 ob s.out.length fun j _ => .int .u8 (s.out.getD j 0) :=
          (HL.out _ (by simp) (fun k _ hk => Below.heap_alloc _ _ _ hk)).2
        have HOWN := Lib.hid hown
        have HROW := Lib.hid hrow
        have hbase : X.heap.size + 1 ≤ (V1.alloc (.cells #[.slice qb s.arr.length cqb, .slice cb s.ctx.length ccb, .slice ob s.out.length ocb, .int .i64 s.steps] 49)).drew.heap.size := by simp; omega
        clear hown hrow
        refine wpPlan_keep ?_
        refine wpList_app_row Try.elU8 rfl (.tmp 79) (.tmp 81) rfl (X.heap.size + 1) (.slice oa a.out.length oc) a.out.length (ints .u8 a.out) rfl HOWN.out ob s.out.length ocb (fun j => .int .u8 (s.out.getD j 0)) rfl HROW.out (fun _ => rfl) (by omega) hbase ?_
        intro va vcap V3 hown3 hg3 hat3
        have hat4 : (Value.slice va (a.out.length + s.out.length) vcap).ownBlock = (Value.slice oa a.out.length oc).ownBlock ∨ (Value.slice va (a.out.length + s.out.length) vcap).ownBlock = some (V1.heap.size + 1) := by simpa using hat3
        obtain ⟨y1, y2, y3, y4⟩ := rfeed_round HF.out HB0.out.1 HB1.out HL.out hg3 hown3 hat4
        have Y1 := Lib.hid y1
        have Y2 := Lib.hid y2
        have Y4 := Lib.hid y4
        have b0 : V3.cell? ⟨X.heap.size, 0, none⟩ = some (.slice qa2 a.arr.length cq2) := y2.cell 0
        have b1 : V3.cell? ⟨X.heap.size, 0 + 1, none⟩ = some (.slice ca2 a.ctx.length cc2) := y2.cell 1
        have b2 : V3.cell? ⟨X.heap.size, 0 + 1 + 1, none⟩ = some (.slice oa a.out.length oc) := y2.cell 2
        have b3 : V3.cell? ⟨X.heap.size, 0 + 1 + 1 + 1, none⟩ = some (.int .i64 a.steps) := y2.cell 3
        have g0 := y2.frozen 0
        have g1 := y2.frozen (0 + 1)
        have g2 := y2.frozen (0 + 1 + 1)
        have g3 := y2.frozen (0 + 1 + 1 + 1)
        clear y1 y2 y4 hown3 hg3 hat3 hat4 HOWN HROW
        refine ⟨⟨⟨V3, Y2.out, Y1.out⟩, rfl⟩, ?_⟩
        refine wpPlan_tail (by kernel_rfl) ?_
        simp only [List.map_cons, List.map_nil]
        go_upto_region 19 with (fail)
        refine wp_gen (fun W => RFAt w [.slice arsA ars.length arsC, .int .i64 regs, .int .i64 spills, .slice codeA cd.length codeC] X.heap.size ⟨s.arr, s.ctx, a.out ++ s.out, a.steps + s.steps⟩ qb cb va cqb ccb vcap W) ?_ ?_
        · refine Y4.out _ (fun k _ h2 => ?_) (by simp) rfl rfl rfl ?_
          · rw [Below.heap_setCell _ _ _ _ h2, Below.heap_setCell _ _ _ _ h2, Below.heap_setCell _ _ _ _ h2, Below.heap_setCell _ _ _ _ h2]
          · exact (((Y2.out.set 0 _).set 1 _).set 2 _).set 3 _
        intro W5 F5
        have hlen : (a.out ++ s.out).length = a.out.length + s.out.length := List.length_append
        have r2 : W5.cell? ⟨X.heap.size, 2, none⟩ = some (.slice va (a.out.length + s.out.length) vcap) := by rw [← hlen]; exact F5.all.cell 2
        have HF5 := Lib.hid F5
        have HLEN := Lib.hid hlen
        clear F5 b0 b1 b2 b3 g0 g1 g2 g3 hlen
        by_cases hlong : 65536 < a.out.length + s.out.length
        · have q5 : decide ((65536 : Int) < ((a.out.length + s.out.length : Nat) : Int)) = true := by simp; omega
          have q6 : decide ((65536 : Int) < (a.out.length : Int) + (s.out.length : Int)) = true := by simp; omega
          have hRn : R = .error 5 := by rw [HSTEP.out, HNX.out.2, if_pos (by rw [HLEN.out]; exact hlong)]; rfl
          have HRN2 := Lib.hid hRn
          clear hRn
          have kz := HF5.out.res
          have z0 : W5.cell? ⟨w.heap.size + 1, 0, none⟩ = some (.slice none 0 0) := kz.cell 0
          have z1 : W5.cell? ⟨w.heap.size + 1, 0 + 1, none⟩ = some (.slice none 0 0) := kz.cell 1
          have z2 : W5.cell? ⟨w.heap.size + 1, 0 + 1 + 1, none⟩ = some (.slice none 0 0) := kz.cell 2
          have z3 : W5.cell? ⟨w.heap.size + 1, 0 + 1 + 1 + 1, none⟩ = some (.int .i64 0) := kz.cell 3
          have f0 := kz.frozen 0
          have f1 := kz.frozen (0 + 1)
          have f2 := kz.frozen (0 + 1 + 1)
          have f3 := kz.frozen (0 + 1 + 1 + 1)
          go_wp2
          refine bodyPost_ret (v := .tuple #[.agg #[.slice none 0 0, .slice none 0 0, .slice none 0 0, .int .i64 0], .int .i64 5]) ?_ rfl ?_
          · have e0 := ((((kz.set 0 (.slice none 0 0)).set 1 (.slice none 0 0)).set 2 (.slice none 0 0)).set 3 (.int .i64 0))
            have y0 := e0.cell 0
            have y1 := e0.cell 1
            have y2 := e0.cell 2
            have y3 := e0.cell 3
            simp only [zeroRun, List.set_cons_zero, List.set_cons_succ, List.getElem?_cons_zero, List.getElem?_cons_succ] at y0 y1 y2 y3
            simp [results, Try.results26, go_sem, y0, y1, y2, y3]
          · exact feed_end HRN2.out HF5.out.bel
        · have q5 : decide ((65536 : Int) < ((a.out.length + s.out.length : Nat) : Int)) = false := by simp; omega
          have q6 : decide ((65536 : Int) < (a.out.length : Int) + (s.out.length : Int)) = false := by simp; omega
          have hnl : ¬ 65536 < (a.out ++ s.out).length := by rw [HLEN.out]; exact hlong
          have hRn : feedGo ars regs spills cd data fuel (data.length + 1 - (k + 1)) (k + 1) ⟨s.arr, s.ctx, a.out ++ s.out, a.steps + s.steps⟩ = R := by rw [HSTEP.out, HNX.out.2, if_neg hnl]; rfl
          have HRN2 := Lib.hid hRn
          have HNL := Lib.hid hnl
          clear hRn hnl
          go_wp2
          go_roundw
          case rel => exact ⟨k + 1, ⟨s.arr, s.ctx, a.out ++ s.out, a.steps + s.steps⟩, qb, cb, va, cqb, ccb, vcap, by first | (simp; done) | (simp; omega), by omega, HNX.out.1 HNL.out, HRN2.out, HF5.out⟩
          case measure => simp [intOf]; omega
set_option maxRecDepth 100000 in
set_option maxHeartbeats 1000000 in
theorem RFeed_e1 (arsA codeA dA : Option Addr) (arsC codeC dC : Nat) (ars : List Ar) (regs spills : Int) (cd : List RI) (dl : Nat) (fuel : Int) (w : World)
    (hars : RowB w.heap.size w 2 arsA ars.length fun i j => (ars.getD i default).cell j) (hcd : RowB w.heap.size w 5 codeA cd.length fun i j => (cd.getD i default).cell j)
    (hA : ars.length ≤ 9223372036854775807) (hC : cd.length ≤ 9223372036854775807) (harg : ∀ i ∈ cd, 0 ≤ i.arg ∧ i.arg < 4294967296)
    (R : Except Int FS) (n : Int) (hR : R = .error n)
    (hn : (chkCode ars regs spills cd).2 = n) (hn0 : (n != 0) = true) :
    Calls Try.prog 26 #[.agg #[.slice arsA ars.length arsC, .int .i64 regs, .int .i64 spills, .slice codeA cd.length codeC], .slice dA dl dC, .int .i64 fuel] w (FeedPost w R) := by
  have HARS := Lib.hid hars
  have HCD := Lib.hid hcd
  have HARG := Lib.hid harg
  have HCK := Lib.hid hn
  have HRN := Lib.hid hR
  clear hars hcd harg hn hR
  go_enter Try.func26, Try.ntmps26
  go_upto_region 1 with (fail)
  refine wp_gen _ (feed_boxes w [.slice arsA ars.length arsC, .int .i64 regs, .int .i64 spills, .slice codeA cd.length codeC]) ?_
  rintro W ⟨hbW, k1, k2, hsz⟩
  have HCH := Lib.hid (RCheck_any arsA codeA arsC codeC ars regs spills cd W ((HARS.out.below hbW).mono hbW.size) ((HCD.out.below hbW).mono hbW.size) hA hC HARG.out)
  have a0 : W.cell? ⟨w.heap.size, 0, none⟩ = some (.slice arsA ars.length arsC) := k1.cell 0
  have a1 : W.cell? ⟨w.heap.size, 0 + 1, none⟩ = some (.int .i64 regs) := k1.cell 1
  have a2 : W.cell? ⟨w.heap.size, 0 + 1 + 1, none⟩ = some (.int .i64 spills) := k1.cell 2
  have a3 : W.cell? ⟨w.heap.size, 0 + 1 + 1 + 1, none⟩ = some (.slice codeA cd.length codeC) := k1.cell 3
  have HW := Lib.hid (And.intro hbW (And.intro k1 k2))
  clear hbW k1 k2
  go_wp2_with fail
  refine HCH.out.mono ?_
  rintro e Y ⟨⟨at_, he⟩, hbY⟩
  rw [HCK.out] at he
  subst he
  obtain ⟨hbW, k1, k2⟩ := HW.out
  have kz := k2.below hbY k2.lt
  have hwY : Below w.heap.size w Y := hbW.trans (hbY.mono hbW.size)
  have z0 : Y.cell? ⟨w.heap.size + 1, 0, none⟩ = some (.slice none 0 0) := kz.cell 0
  have z1 : Y.cell? ⟨w.heap.size + 1, 0 + 1, none⟩ = some (.slice none 0 0) := kz.cell 1
  have z2 : Y.cell? ⟨w.heap.size + 1, 0 + 1 + 1, none⟩ = some (.slice none 0 0) := kz.cell 2
  have z3 : Y.cell? ⟨w.heap.size + 1, 0 + 1 + 1 + 1, none⟩ = some (.int .i64 0) := kz.cell 3
  have f0 := kz.frozen 0
  have f1 := kz.frozen (0 + 1)
  have f2 := kz.frozen (0 + 1 + 1)
  have f3 := kz.frozen (0 + 1 + 1 + 1)
  have HY := Lib.hid hwY
  clear hbY hbW k1 k2 hwY a0 a1 a2 a3 HW HCH hsz
  go_wp2
  refine bodyPost_ret (v := .tuple #[.agg #[.slice none 0 0, .slice none 0 0, .slice none 0 0, .int .i64 0], .int .i64 n]) ?_ rfl ?_
  rotate_left
  · exact feed_end HRN.out HY.out
  · have e0 := ((((kz.set 0 (.slice none 0 0)).set 1 (.slice none 0 0)).set 2 (.slice none 0 0)).set 3 (.int .i64 0))
    have y0 := e0.cell 0
    have y1 := e0.cell 1
    have y2 := e0.cell 2
    have y3 := e0.cell 3
    simp only [zeroRun, List.set_cons_zero, List.set_cons_succ, List.getElem?_cons_zero, List.getElem?_cons_succ] at y0 y1 y2 y3
    simp [results, Try.results26, go_sem, y0, y1, y2, y3]
set_option maxRecDepth 100000 in
set_option maxHeartbeats 1000000 in
theorem RFeed_e2 (arsA codeA dA : Option Addr) (arsC codeC dC : Nat) (ars : List Ar) (regs spills : Int) (cd : List RI) (dl : Nat) (fuel : Int) (w : World)
    (hars : RowB w.heap.size w 2 arsA ars.length fun i j => (ars.getD i default).cell j) (hcd : RowB w.heap.size w 5 codeA cd.length fun i j => (cd.getD i default).cell j)
    (hA : ars.length ≤ 9223372036854775807) (hC : cd.length ≤ 9223372036854775807) (harg : ∀ i ∈ cd, 0 ≤ i.arg ∧ i.arg < 4294967296)
    (R : Except Int FS) (n : Int) (hR : R = .error n)
    (hn : (chkCode ars regs spills cd).2 = 0) (hn5 : n = 5) (qd : decide ((65536 : Int) < (dl : Int)) = true) :
    Calls Try.prog 26 #[.agg #[.slice arsA ars.length arsC, .int .i64 regs, .int .i64 spills, .slice codeA cd.length codeC], .slice dA dl dC, .int .i64 fuel] w (FeedPost w R) := by
  have HARS := Lib.hid hars
  have HCD := Lib.hid hcd
  have HARG := Lib.hid harg
  have HCK := Lib.hid hn
  have HRN := Lib.hid hR
  clear hars hcd harg hn hR
  subst hn5
  go_enter Try.func26, Try.ntmps26
  go_upto_region 1 with (fail)
  refine wp_gen _ (feed_boxes w [.slice arsA ars.length arsC, .int .i64 regs, .int .i64 spills, .slice codeA cd.length codeC]) ?_
  rintro W ⟨hbW, k1, k2, hsz⟩
  have HCH := Lib.hid (RCheck_any arsA codeA arsC codeC ars regs spills cd W ((HARS.out.below hbW).mono hbW.size) ((HCD.out.below hbW).mono hbW.size) hA hC HARG.out)
  have a0 : W.cell? ⟨w.heap.size, 0, none⟩ = some (.slice arsA ars.length arsC) := k1.cell 0
  have a1 : W.cell? ⟨w.heap.size, 0 + 1, none⟩ = some (.int .i64 regs) := k1.cell 1
  have a2 : W.cell? ⟨w.heap.size, 0 + 1 + 1, none⟩ = some (.int .i64 spills) := k1.cell 2
  have a3 : W.cell? ⟨w.heap.size, 0 + 1 + 1 + 1, none⟩ = some (.slice codeA cd.length codeC) := k1.cell 3
  have HW := Lib.hid (And.intro hbW (And.intro k1 k2))
  clear hbW k1 k2
  go_wp2_with fail
  refine HCH.out.mono ?_
  rintro e Y ⟨⟨at_, he⟩, hbY⟩
  rw [HCK.out] at he
  subst he
  obtain ⟨hbW, k1, k2⟩ := HW.out
  have kz := k2.below hbY k2.lt
  have hwY : Below w.heap.size w Y := hbW.trans (hbY.mono hbW.size)
  have z0 : Y.cell? ⟨w.heap.size + 1, 0, none⟩ = some (.slice none 0 0) := kz.cell 0
  have z1 : Y.cell? ⟨w.heap.size + 1, 0 + 1, none⟩ = some (.slice none 0 0) := kz.cell 1
  have z2 : Y.cell? ⟨w.heap.size + 1, 0 + 1 + 1, none⟩ = some (.slice none 0 0) := kz.cell 2
  have z3 : Y.cell? ⟨w.heap.size + 1, 0 + 1 + 1 + 1, none⟩ = some (.int .i64 0) := kz.cell 3
  have f0 := kz.frozen 0
  have f1 := kz.frozen (0 + 1)
  have f2 := kz.frozen (0 + 1 + 1)
  have f3 := kz.frozen (0 + 1 + 1 + 1)
  have HY := Lib.hid hwY
  clear hbY hbW k1 k2 hwY a0 a1 a2 a3 HW HCH hsz
  go_wp2
  refine bodyPost_ret (v := .tuple #[.agg #[.slice none 0 0, .slice none 0 0, .slice none 0 0, .int .i64 0], .int .i64 5]) ?_ rfl ?_
  rotate_left
  · exact feed_end HRN.out HY.out
  · have e0 := ((((kz.set 0 (.slice none 0 0)).set 1 (.slice none 0 0)).set 2 (.slice none 0 0)).set 3 (.int .i64 0))
    have y0 := e0.cell 0
    have y1 := e0.cell 1
    have y2 := e0.cell 2
    have y3 := e0.cell 3
    simp only [zeroRun, List.set_cons_zero, List.set_cons_succ, List.getElem?_cons_zero, List.getElem?_cons_succ] at y0 y1 y2 y3
    simp [results, Try.results26, go_sem, y0, y1, y2, y3]
set_option maxRecDepth 100000 in
set_option maxHeartbeats 1000000 in
theorem RFeed_e3 (arsA codeA dA : Option Addr) (arsC codeC dC : Nat) (ars : List Ar) (regs spills : Int) (cd : List RI) (dl : Nat) (fuel : Int) (w : World)
    (hars : RowB w.heap.size w 2 arsA ars.length fun i j => (ars.getD i default).cell j) (hcd : RowB w.heap.size w 5 codeA cd.length fun i j => (cd.getD i default).cell j)
    (hA : ars.length ≤ 9223372036854775807) (hC : cd.length ≤ 9223372036854775807) (harg : ∀ i ∈ cd, 0 ≤ i.arg ∧ i.arg < 4294967296)
    (R : Except Int FS) (n : Int) (hR : R = .error n)
    (hn : (chkCode ars regs spills cd).2 = 0) (hn2 : n = 2) (qd : decide ((65536 : Int) < (dl : Int)) = false) (qf0 : decide (fuel < 0) = true) :
    Calls Try.prog 26 #[.agg #[.slice arsA ars.length arsC, .int .i64 regs, .int .i64 spills, .slice codeA cd.length codeC], .slice dA dl dC, .int .i64 fuel] w (FeedPost w R) := by
  have HARS := Lib.hid hars
  have HCD := Lib.hid hcd
  have HARG := Lib.hid harg
  have HCK := Lib.hid hn
  have HRN := Lib.hid hR
  clear hars hcd harg hn hR
  subst hn2
  go_enter Try.func26, Try.ntmps26
  go_upto_region 1 with (fail)
  refine wp_gen _ (feed_boxes w [.slice arsA ars.length arsC, .int .i64 regs, .int .i64 spills, .slice codeA cd.length codeC]) ?_
  rintro W ⟨hbW, k1, k2, hsz⟩
  have HCH := Lib.hid (RCheck_any arsA codeA arsC codeC ars regs spills cd W ((HARS.out.below hbW).mono hbW.size) ((HCD.out.below hbW).mono hbW.size) hA hC HARG.out)
  have a0 : W.cell? ⟨w.heap.size, 0, none⟩ = some (.slice arsA ars.length arsC) := k1.cell 0
  have a1 : W.cell? ⟨w.heap.size, 0 + 1, none⟩ = some (.int .i64 regs) := k1.cell 1
  have a2 : W.cell? ⟨w.heap.size, 0 + 1 + 1, none⟩ = some (.int .i64 spills) := k1.cell 2
  have a3 : W.cell? ⟨w.heap.size, 0 + 1 + 1 + 1, none⟩ = some (.slice codeA cd.length codeC) := k1.cell 3
  have HW := Lib.hid (And.intro hbW (And.intro k1 k2))
  clear hbW k1 k2
  go_wp2_with fail
  refine HCH.out.mono ?_
  rintro e Y ⟨⟨at_, he⟩, hbY⟩
  rw [HCK.out] at he
  subst he
  obtain ⟨hbW, k1, k2⟩ := HW.out
  have kz := k2.below hbY k2.lt
  have hwY : Below w.heap.size w Y := hbW.trans (hbY.mono hbW.size)
  have z0 : Y.cell? ⟨w.heap.size + 1, 0, none⟩ = some (.slice none 0 0) := kz.cell 0
  have z1 : Y.cell? ⟨w.heap.size + 1, 0 + 1, none⟩ = some (.slice none 0 0) := kz.cell 1
  have z2 : Y.cell? ⟨w.heap.size + 1, 0 + 1 + 1, none⟩ = some (.slice none 0 0) := kz.cell 2
  have z3 : Y.cell? ⟨w.heap.size + 1, 0 + 1 + 1 + 1, none⟩ = some (.int .i64 0) := kz.cell 3
  have f0 := kz.frozen 0
  have f1 := kz.frozen (0 + 1)
  have f2 := kz.frozen (0 + 1 + 1)
  have f3 := kz.frozen (0 + 1 + 1 + 1)
  have HY := Lib.hid hwY
  clear hbY hbW k1 k2 hwY a0 a1 a2 a3 HW HCH hsz
  go_wp2
  refine bodyPost_ret (v := .tuple #[.agg #[.slice none 0 0, .slice none 0 0, .slice none 0 0, .int .i64 0], .int .i64 2]) ?_ rfl ?_
  rotate_left
  · exact feed_end HRN.out HY.out
  · have e0 := ((((kz.set 0 (.slice none 0 0)).set 1 (.slice none 0 0)).set 2 (.slice none 0 0)).set 3 (.int .i64 0))
    have y0 := e0.cell 0
    have y1 := e0.cell 1
    have y2 := e0.cell 2
    have y3 := e0.cell 3
    simp only [zeroRun, List.set_cons_zero, List.set_cons_succ, List.getElem?_cons_zero, List.getElem?_cons_succ] at y0 y1 y2 y3
    simp [results, Try.results26, go_sem, y0, y1, y2, y3]
set_option maxRecDepth 100000 in
set_option maxHeartbeats 1000000 in
theorem RFeed_e4 (arsA codeA dA : Option Addr) (arsC codeC dC : Nat) (ars : List Ar) (regs spills : Int) (cd : List RI) (dl : Nat) (fuel : Int) (w : World)
    (hars : RowB w.heap.size w 2 arsA ars.length fun i j => (ars.getD i default).cell j) (hcd : RowB w.heap.size w 5 codeA cd.length fun i j => (cd.getD i default).cell j)
    (hA : ars.length ≤ 9223372036854775807) (hC : cd.length ≤ 9223372036854775807) (harg : ∀ i ∈ cd, 0 ≤ i.arg ∧ i.arg < 4294967296)
    (R : Except Int FS) (n : Int) (hR : R = .error n)
    (hn : (chkCode ars regs spills cd).2 = 0) (hn2 : n = 2) (qd : decide ((65536 : Int) < (dl : Int)) = false) (qf0 : decide (fuel < 0) = false) (qf1 : decide (281474976710656 < fuel) = true) :
    Calls Try.prog 26 #[.agg #[.slice arsA ars.length arsC, .int .i64 regs, .int .i64 spills, .slice codeA cd.length codeC], .slice dA dl dC, .int .i64 fuel] w (FeedPost w R) := by
  have HARS := Lib.hid hars
  have HCD := Lib.hid hcd
  have HARG := Lib.hid harg
  have HCK := Lib.hid hn
  have HRN := Lib.hid hR
  clear hars hcd harg hn hR
  subst hn2
  go_enter Try.func26, Try.ntmps26
  go_upto_region 1 with (fail)
  refine wp_gen _ (feed_boxes w [.slice arsA ars.length arsC, .int .i64 regs, .int .i64 spills, .slice codeA cd.length codeC]) ?_
  rintro W ⟨hbW, k1, k2, hsz⟩
  have HCH := Lib.hid (RCheck_any arsA codeA arsC codeC ars regs spills cd W ((HARS.out.below hbW).mono hbW.size) ((HCD.out.below hbW).mono hbW.size) hA hC HARG.out)
  have a0 : W.cell? ⟨w.heap.size, 0, none⟩ = some (.slice arsA ars.length arsC) := k1.cell 0
  have a1 : W.cell? ⟨w.heap.size, 0 + 1, none⟩ = some (.int .i64 regs) := k1.cell 1
  have a2 : W.cell? ⟨w.heap.size, 0 + 1 + 1, none⟩ = some (.int .i64 spills) := k1.cell 2
  have a3 : W.cell? ⟨w.heap.size, 0 + 1 + 1 + 1, none⟩ = some (.slice codeA cd.length codeC) := k1.cell 3
  have HW := Lib.hid (And.intro hbW (And.intro k1 k2))
  clear hbW k1 k2
  go_wp2_with fail
  refine HCH.out.mono ?_
  rintro e Y ⟨⟨at_, he⟩, hbY⟩
  rw [HCK.out] at he
  subst he
  obtain ⟨hbW, k1, k2⟩ := HW.out
  have kz := k2.below hbY k2.lt
  have hwY : Below w.heap.size w Y := hbW.trans (hbY.mono hbW.size)
  have z0 : Y.cell? ⟨w.heap.size + 1, 0, none⟩ = some (.slice none 0 0) := kz.cell 0
  have z1 : Y.cell? ⟨w.heap.size + 1, 0 + 1, none⟩ = some (.slice none 0 0) := kz.cell 1
  have z2 : Y.cell? ⟨w.heap.size + 1, 0 + 1 + 1, none⟩ = some (.slice none 0 0) := kz.cell 2
  have z3 : Y.cell? ⟨w.heap.size + 1, 0 + 1 + 1 + 1, none⟩ = some (.int .i64 0) := kz.cell 3
  have f0 := kz.frozen 0
  have f1 := kz.frozen (0 + 1)
  have f2 := kz.frozen (0 + 1 + 1)
  have f3 := kz.frozen (0 + 1 + 1 + 1)
  have HY := Lib.hid hwY
  clear hbY hbW k1 k2 hwY a0 a1 a2 a3 HW HCH hsz
  go_wp2
  refine bodyPost_ret (v := .tuple #[.agg #[.slice none 0 0, .slice none 0 0, .slice none 0 0, .int .i64 0], .int .i64 2]) ?_ rfl ?_
  rotate_left
  · exact feed_end HRN.out HY.out
  · have e0 := ((((kz.set 0 (.slice none 0 0)).set 1 (.slice none 0 0)).set 2 (.slice none 0 0)).set 3 (.int .i64 0))
    have y0 := e0.cell 0
    have y1 := e0.cell 1
    have y2 := e0.cell 2
    have y3 := e0.cell 3
    simp only [zeroRun, List.set_cons_zero, List.set_cons_succ, List.getElem?_cons_zero, List.getElem?_cons_succ] at y0 y1 y2 y3
    simp [results, Try.results26, go_sem, y0, y1, y2, y3]
theorem RFeed_any (arsA codeA dA : Option Addr) (arsC codeC dC : Nat) (ars : List Ar) (regs spills : Int) (cd : List RI) (data : List Int) (fuel : Int) (w : World)
    (hars : RowB w.heap.size w 2 arsA ars.length fun i j => (ars.getD i default).cell j) (hcd : RowB w.heap.size w 5 codeA cd.length fun i j => (cd.getD i default).cell j) (hdat : RowB w.heap.size w 1 dA data.length fun j _ => .int .u8 (data.getD j 0))
    (hA : ars.length ≤ 9223372036854775807) (hC : cd.length ≤ 9223372036854775807) (harg : ∀ i ∈ cd, 0 ≤ i.arg ∧ i.arg < 4294967296) (hd8 : ∀ n ∈ data, 0 ≤ n ∧ n < 256) :
    Calls Try.prog 26 #[.agg #[.slice arsA ars.length arsC, .int .i64 regs, .int .i64 spills, .slice codeA cd.length codeC], .slice dA data.length dC, .int .i64 fuel] w (FeedPost w (feedRes ars regs spills cd data fuel)) := by
  by_cases h1 : (chkCode ars regs spills cd).2 = 0
  rotate_left
  · exact RFeed_e1 arsA codeA dA arsC codeC dC ars regs spills cd data.length fuel w hars hcd hA hC harg _ _ (by unfold feedRes; rw [if_pos (by simpa using h1)]) rfl (by simpa using h1)
  by_cases h2 : 65536 < data.length
  · exact RFeed_e2 arsA codeA dA arsC codeC dC ars regs spills cd data.length fuel w hars hcd hA hC harg _ 5 (by unfold feedRes; rw [if_neg (by simpa using h1), if_pos h2]) h1 rfl (by simp; omega)
  by_cases h3 : fuel < 0
  · exact RFeed_e3 arsA codeA dA arsC codeC dC ars regs spills cd data.length fuel w hars hcd hA hC harg _ 2 (by unfold feedRes; rw [if_neg (by simpa using h1), if_neg h2, if_pos (.inl h3)]) h1 rfl (by simp; omega) (by simpa using h3)
  by_cases h4 : 281474976710656 < fuel
  · exact RFeed_e4 arsA codeA dA arsC codeC dC ars regs spills cd data.length fuel w hars hcd hA hC harg _ 2 (by unfold feedRes; rw [if_neg (by simpa using h1), if_neg h2, if_pos (.inr h4)]) h1 rfl (by simp; omega) (by simpa using h3) (by simpa using h4)
  · exact RFeed_main arsA codeA dA arsC codeC dC ars regs spills cd data fuel w hars hcd hdat hA hC harg hd8 h1 (by omega) (by omega)
end Go.Proofs.Ytefdnjhhaejgbaa

namespace Go.Proofs.Ytefdnjhhaejgbaa
open Go.RowKit
set_option linter.unusedVariables false
structure FR where
  arr : List (List Int)
  ctx : List Int
  out : List Int
  steps : Int
  er : Int
def lightB (fuel : Int) : Bool := decide (fuel ≤ 5000) || decide (281474976710656 < fuel)
def RunBoxes3 (w : World) (c1 c2 c3 : List Value) (z : World) : Prop :=
  Below w.heap.size w z ∧ Blk z w.heap.size c1 25 ∧ Blk z (w.heap.size + 1) c2 31 ∧ Blk z (w.heap.size + 1 + 1) c3 44
theorem RunBoxes3.below {w z z' : World} {c1 c2 c3 : List Value} (h : RunBoxes3 w c1 c2 c3 z) (hb : Below z.heap.size z z') : RunBoxes3 w c1 c2 c3 z' :=
  ⟨h.1.trans (hb.mono h.1.size), h.2.1.below hb h.2.1.lt, h.2.2.1.below hb h.2.2.1.lt, h.2.2.2.below hb h.2.2.2.lt⟩
section
variable (arsA codeA qa ca : Option Addr) (arsC codeC cq cc : Nat) (ars : List Ar) (regs spills : Int) (cd : List RI) (arr : List (List Int)) (ctx : List Int) (input : Int) (ended : Bool) (fuel : Int) (w : World)
  (hA : RowB w.heap.size w 2 arsA ars.length fun i j => (ars.getD i default).cell j) (hC : RowB w.heap.size w 5 codeA cd.length fun i j => (cd.getD i default).cell j)
  (hg : GridR w qa arr) (hctx : RowB w.heap.size w 1 ca ctx.length fun j _ => .int .u32 (ctx.getD j 0)) (ok : CodeOk ars regs spills cd) (mok : MemOk arr ctx) (hi : u32 input)
include hA hC hg hctx ok mok hi
end
end Go.Proofs.Ytefdnjhhaejgbaa

namespace Go.Proofs.Ytefdnjhhaejgbaa
open Go.RowKit
set_option linter.unusedVariables false
def frFS : Except Int FS → FR
  | .ok a => ⟨a.arr, a.ctx, a.out, a.steps, 0⟩
  | .error n => ⟨[], [], [], 0, n⟩
theorem feed_fr {w w' : World} {R : Except Int FS} {e : Ending} {f : FR} (hf : frFS R = f) (h : FeedPost w R e w') :
    Below w.heap.size w w' ∧ ∃ qa cq ca cc oa oc, e = .returned (.tuple #[.agg #[.slice qa f.arr.length cq, .slice ca f.ctx.length cc, .slice oa f.out.length oc, .int .i64 f.steps], .int .i64 f.er]) ∧ ResAt w' f.arr f.ctx f.out f.steps (.agg #[.slice qa f.arr.length cq, .slice ca f.ctx.length cc, .slice oa f.out.length oc, .int .i64 f.steps]) := by
  subst hf
  obtain ⟨hb, h⟩ := h
  refine ⟨hb, ?_⟩
  cases R with
  | ok a =>
    obtain ⟨v, rfl, hv⟩ := h
    obtain ⟨qa, cq, ca, cc, oa, oc, rfl, h1, h2, h3⟩ := hv
    exact ⟨qa, cq, ca, cc, oa, oc, rfl, qa, cq, ca, cc, oa, oc, rfl, h1, h2, h3⟩
  | error n =>
    refine ⟨none, 0, none, 0, none, 0, h, none, 0, none, 0, none, 0, rfl, fun k hk => ?_, fun k hk => ?_, fun k hk => ?_⟩
    · simp [frFS] at hk
    · simp [frFS] at hk
    · simp [frFS] at hk
theorem feedGo_good {ars : List Ar} {regs spills : Int} {cd : List RI} {data : List Int} {fuel : Int} (harg : ∀ i ∈ cd, 0 ≤ i.arg ∧ i.arg < 4294967296) (hd : ∀ n ∈ data, 0 ≤ n ∧ n < 256) : ∀ (n k : Nat) (a b : FS), FGood ars fuel a → feedGo ars regs spills cd data fuel n k a = .ok b → FGood ars fuel b
  | 0, k, a, b, g, h => by simp only [feedGo] at h; cases h; exact g
  | n + 1, k, a, b, g, h => by
    simp only [feedGo] at h
    cases hs : feedStep ars regs spills cd data fuel k a with
    | error e => rw [hs] at h; cases h
    | ok c =>
      rw [hs] at h
      exact feedGo_good harg hd n (k + 1) c b (feedStep_good harg hd g hs) h
theorem feedRes_good {ars : List Ar} {regs spills : Int} {cd : List RI} {data : List Int} {fuel : Int} {b : FS} (harg : ∀ i ∈ cd, 0 ≤ i.arg ∧ i.arg < 4294967296) (hd : ∀ n ∈ data, 0 ≤ n ∧ n < 256) (h : feedRes ars regs spills cd data fuel = .ok b) : InOrd ars regs spills cd ∧ FGood ars fuel b := by
  unfold feedRes at h
  split at h
  · cases h
  · rename_i h1
    split at h
    · cases h
    · split at h
      · cases h
      · rename_i h3
        have G := chk_good (ars := ars) (regs := regs) (spills := spills) (cd := cd) (by simpa using h1)
        exact ⟨G, feedGo_good harg hd _ _ _ _ ⟨zeros_fit G.hars, zeros_u32 ars, u32s_rep 16, Int.le_refl _, by show (0 : Int) ≤ fuel; omega, by simp⟩ h⟩
set_option maxRecDepth 100000 in
set_option maxHeartbeats 1000000 in
theorem feeds_idle (arsA codeA dA : Option Addr) (arsC codeC dC : Nat) (ars : List Ar) (regs spills : Int) (cd : List RI) (data : List Int) (fuel : Int) (w : World)
    (hA : RowB w.heap.size w 2 arsA ars.length fun i j => (ars.getD i default).cell j) (h : fewB ars cd = false ∨ 60 < data.length ∨ lightB fuel = false) :
    Calls Try.prog 7 #[.agg #[.slice arsA ars.length arsC, .int .i64 regs, .int .i64 spills, .slice codeA cd.length codeC], .slice dA data.length dC, .int .i64 fuel] w fun e w' => e = .returned (.bool true) ∧ Below w.heap.size w w' := by
  have HF := Lib.hid (fun W (hb : Below w.heap.size w W) => few_any arsA codeA arsC codeC regs spills ars cd W ((hA.below hb).mono hb.size))
  have HL := Lib.hid (fun W => lightF_any fuel W)
  clear hA
  go_enter Try.func7, Try.ntmps7
  go_upto_region 1 with (fail)
  refine wp_gen (fun W => Below w.heap.size w W ∧ Blk W w.heap.size [.slice arsA ars.length arsC, .int .i64 regs, .int .i64 spills, .slice codeA cd.length codeC] 25) ⟨(Below.refl _ _).alloc (Nat.le_refl _) _, heap_new1 _ _⟩ ?_
  rintro W ⟨hW, kc⟩
  have a0 : W.cell? ⟨w.heap.size, 0, none⟩ = some (.slice arsA ars.length arsC) := kc.cell 0
  have a1 : W.cell? ⟨w.heap.size, 0 + 1, none⟩ = some (.int .i64 regs) := kc.cell 1
  have a2 : W.cell? ⟨w.heap.size, 0 + 1 + 1, none⟩ = some (.int .i64 spills) := kc.cell 2
  have a3 : W.cell? ⟨w.heap.size, 0 + 1 + 1 + 1, none⟩ = some (.slice codeA cd.length codeC) := kc.cell 3
  have HW := Lib.hid hW
  clear hW kc
  go_wp2_with fail
  refine (HF.out W HW.out).mono ?_
  rintro e W2 ⟨rfl, hb2⟩
  have HW2 := Lib.hid (HW.out.trans (hb2.mono HW.out.size))
  clear hb2 a0 a1 a2 a3 HF
  cases hf : fewB ars cd with
  | false =>
    clear hf h
    go_wp2_with fail
    refine (awake_true W2).mono ?_
    rintro e W3 ⟨rfl, hb3⟩
    have H3 := Lib.hid (HW2.out.trans (hb3.mono HW2.out.size))
    clear hb3
    go_wp2
    go_ret
    exact ⟨rfl, H3.out⟩
  | true =>
    by_cases hm : 60 < data.length
    · have q : decide ((60 : Int) < (data.length : Int)) = true := by simp; omega
      clear hf hm h
      go_wp2_with fail
      refine (awake_true W2).mono ?_
      rintro e W4 ⟨rfl, hb4⟩
      have H4 := Lib.hid (HW2.out.trans (hb4.mono HW2.out.size))
      clear hb4
      go_wp2
      go_ret
      exact ⟨rfl, H4.out⟩
    · have hl : lightB fuel = false := by
        rcases h with h | h | h
        · rw [hf] at h; cases h
        · exact absurd h hm
        · exact h
      have q : decide ((60 : Int) < (data.length : Int)) = false := by simp; omega
      have HLT := Lib.hid hl
      clear hf hm h hl
      go_wp2_with fail
      refine (HL.out W2).mono ?_
      rintro e W4 ⟨rfl, rfl⟩
      have hl := HLT.out
      unfold lightB at hl
      rw [hl]
      clear hl
      go_wp2_with fail
      refine (awake_true W4).mono ?_
      rintro e W5 ⟨rfl, hb4⟩
      have H4 := Lib.hid (HW2.out.trans (hb4.mono HW2.out.size))
      clear hb4
      go_wp2
      go_ret
      exact ⟨rfl, H4.out⟩
section
variable (arsA codeA dA : Option Addr) (arsC codeC dC : Nat) (ars : List Ar) (regs spills : Int) (cd : List RI) (data : List Int) (fuel : Int) (w : World)
  (hA : RowB w.heap.size w 2 arsA ars.length fun i j => (ars.getD i default).cell j) (hC : RowB w.heap.size w 5 codeA cd.length fun i j => (cd.getD i default).cell j)
  (hD : RowB w.heap.size w 1 dA data.length fun j _ => .int .u8 (data.getD j 0)) (ok : CodeOk ars regs spills cd) (hd8 : ∀ n ∈ data, 0 ≤ n ∧ n < 256)
include hA hC hD ok hd8
set_option maxRecDepth 100000 in
set_option maxHeartbeats 1000000 in
theorem feeds_main (h1 : fewB ars cd = true) (h2 : data.length ≤ 60) (h3 : lightB fuel = true) (f : FR) (hfr : frFS (feedRes ars regs spills cd data fuel) = f)
    (s1 : f.arr.length ≤ 65536) (s2 : f.ctx.length ≤ 65536) (s3 : ∀ a ∈ f.arr, a.length ≤ 65536) :
    Calls Try.prog 7 #[.agg #[.slice arsA ars.length arsC, .int .i64 regs, .int .i64 spills, .slice codeA cd.length codeC], .slice dA data.length dC, .int .i64 fuel] w fun e w' => e = .returned (.bool true) ∧ Below w.heap.size w w' := by
  have hF := fun W (hb : Below w.heap.size w W) => few_any arsA codeA arsC codeC regs spills ars cd W ((hA.below hb).mono hb.size)
  rw [h1] at hF
  have hL := fun W => lightF_any fuel W
  unfold lightB at h3
  rw [h3] at hL
  have HF := Lib.hid hF
  have HL := Lib.hid hL
  have HR1 := Lib.hid (fun W (hb : Below w.heap.size w W) => Feed_any arsA codeA dA arsC codeC dC ars regs spills cd data fuel W ((hA.below hb).mono hb.size) ((hC.below hb).mono hb.size) ((hD.below hb).mono hb.size) ok.la ok.lc ok.arg hd8)
  have HR2 := Lib.hid (fun W (hb : Below w.heap.size w W) => RFeed_any arsA codeA dA arsC codeC dC ars regs spills cd data fuel W ((hA.below hb).mono hb.size) ((hC.below hb).mono hb.size) ((hD.below hb).mono hb.size) ok.la ok.lc ok.arg hd8)
  have HFR := Lib.hid (fun (W W' : World) (e : Ending) (h : FeedPost W (feedRes ars regs spills cd data fuel) e W') => feed_fr hfr h)
  have HSM := Lib.hid s3
  have q : decide ((60 : Int) < (data.length : Int)) = false := by simp; omega
  clear hA hC hD ok hd8 h1 h2 h3 hF hL s3 hfr
  go_enter Try.func7, Try.ntmps7
  go_upto_region 1 with (fail)
  refine wp_gen (fun W => Below w.heap.size w W ∧ Blk W w.heap.size [.slice arsA ars.length arsC, .int .i64 regs, .int .i64 spills, .slice codeA cd.length codeC] 25) ⟨(Below.refl _ _).alloc (Nat.le_refl _) _, heap_new1 _ _⟩ ?_
  rintro W ⟨hW, kc⟩
  have HW := Lib.hid (And.intro hW kc)
  clear hW kc
  have a0 : W.cell? ⟨w.heap.size, 0, none⟩ = some (.slice arsA ars.length arsC) := (HW.out.2).cell 0
  have a1 : W.cell? ⟨w.heap.size, 0 + 1, none⟩ = some (.int .i64 regs) := (HW.out.2).cell 1
  have a2 : W.cell? ⟨w.heap.size, 0 + 1 + 1, none⟩ = some (.int .i64 spills) := (HW.out.2).cell 2
  have a3 : W.cell? ⟨w.heap.size, 0 + 1 + 1 + 1, none⟩ = some (.slice codeA cd.length codeC) := (HW.out.2).cell 3
  go_wp2_with fail
  refine (HF.out W HW.out.1).mono ?_
  rintro e W2 ⟨rfl, hb2⟩
  have HW2 := Lib.hid (And.intro (HW.out.1.trans (hb2.mono HW.out.1.size)) (HW.out.2.below hb2 HW.out.2.lt))
  clear hb2 a0 a1 a2 a3 HF
  go_wp2_with fail
  refine (HL.out W2).mono ?_
  rintro e W4 ⟨rfl, rfl⟩
  have a0 : W4.cell? ⟨w.heap.size, 0, none⟩ = some (.slice arsA ars.length arsC) := (HW2.out.2).cell 0
  have a1 : W4.cell? ⟨w.heap.size, 0 + 1, none⟩ = some (.int .i64 regs) := (HW2.out.2).cell 1
  have a2 : W4.cell? ⟨w.heap.size, 0 + 1 + 1, none⟩ = some (.int .i64 spills) := (HW2.out.2).cell 2
  have a3 : W4.cell? ⟨w.heap.size, 0 + 1 + 1 + 1, none⟩ = some (.slice codeA cd.length codeC) := (HW2.out.2).cell 3
  go_wp2_with fail
  refine (HR1.out W4 HW2.out.1).mono ?_
  intro e Y1 hpost
  obtain ⟨hbY, qa1, cq1, ca1, cc1, oa1, oc1, rfl, hres1⟩ := HFR.out _ _ _ hpost
  have H3 := Lib.hid (And.intro (HW2.out.1.trans (hbY.mono HW2.out.1.size)) (And.intro (HW2.out.2.below hbY HW2.out.2.lt) hres1))
  clear hpost hbY hres1 a0 a1 a2 a3 HR1
  go_upto_region 4 with (fail)
  refine wp_gen (fun Z => Below w.heap.size w Z ∧ Blk Z w.heap.size [.slice arsA ars.length arsC, .int .i64 regs, .int .i64 spills, .slice codeA cd.length codeC] 25 ∧
      Blk Z Y1.heap.size [.slice qa1 f.arr.length cq1, .slice ca1 f.ctx.length cc1, .slice oa1 f.out.length oc1, .int .i64 f.steps] 49 ∧ ResAt Z f.arr f.ctx f.out f.steps (.agg #[.slice qa1 f.arr.length cq1, .slice ca1 f.ctx.length cc1, .slice oa1 f.out.length oc1, .int .i64 f.steps])) ?_ ?_
  · have hbb : Below Y1.heap.size Y1 (Y1.alloc (.cells #[.slice qa1 f.arr.length cq1, .slice ca1 f.ctx.length cc1, .slice oa1 f.out.length oc1, .int .i64 f.steps] 49)) := (Below.refl _ _).alloc (Nat.le_refl _) _
    exact ⟨H3.out.1.trans (hbb.mono H3.out.1.size), H3.out.2.1.below hbb H3.out.2.1.lt, heap_new1 _ _, H3.out.2.2.below hbb⟩
  rintro Z1 ⟨hz1, hz2, hz3, hz4⟩
  have HZ1 := Lib.hid (And.intro hz1 (And.intro hz2 (And.intro hz3 hz4)))
  clear hz1 hz2 hz3 hz4 H3
  have a0 : Z1.cell? ⟨w.heap.size, 0, none⟩ = some (.slice arsA ars.length arsC) := (HZ1.out.2.1).cell 0
  have a1 : Z1.cell? ⟨w.heap.size, 0 + 1, none⟩ = some (.int .i64 regs) := (HZ1.out.2.1).cell 1
  have a2 : Z1.cell? ⟨w.heap.size, 0 + 1 + 1, none⟩ = some (.int .i64 spills) := (HZ1.out.2.1).cell 2
  have a3 : Z1.cell? ⟨w.heap.size, 0 + 1 + 1 + 1, none⟩ = some (.slice codeA cd.length codeC) := (HZ1.out.2.1).cell 3
  go_wp2_with fail
  refine (HR2.out Z1 HZ1.out.1).mono ?_
  intro e Y2 hpost
  obtain ⟨hbY, qa2, cq2, ca2, cc2, oa2, oc2, rfl, hres2⟩ := HFR.out _ _ _ hpost
  have H4 := Lib.hid (And.intro (HZ1.out.1.trans (hbY.mono HZ1.out.1.size)) (And.intro (HZ1.out.2.2.1.below hbY HZ1.out.2.2.1.lt) (And.intro (HZ1.out.2.2.2.below hbY) hres2)))
  have hl1 : Y1.heap.size < Y2.heap.size := (HZ1.out.2.2.1.below hbY HZ1.out.2.2.1.lt).lt
  clear hpost hbY hres2 a0 a1 a2 a3 HR2 HFR
  go_upto_region 5 with (fail)
  refine wp_gen (fun Z => Below w.heap.size w Z ∧ Blk Z Y1.heap.size [.slice qa1 f.arr.length cq1, .slice ca1 f.ctx.length cc1, .slice oa1 f.out.length oc1, .int .i64 f.steps] 49 ∧ ResAt Z f.arr f.ctx f.out f.steps (.agg #[.slice qa1 f.arr.length cq1, .slice ca1 f.ctx.length cc1, .slice oa1 f.out.length oc1, .int .i64 f.steps]) ∧
      Blk Z Y2.heap.size [.slice qa2 f.arr.length cq2, .slice ca2 f.ctx.length cc2, .slice oa2 f.out.length oc2, .int .i64 f.steps] 49 ∧ ResAt Z f.arr f.ctx f.out f.steps (.agg #[.slice qa2 f.arr.length cq2, .slice ca2 f.ctx.length cc2, .slice oa2 f.out.length oc2, .int .i64 f.steps])) ?_ ?_
  · have hbb : Below Y2.heap.size Y2 (Y2.alloc (.cells #[.slice qa2 f.arr.length cq2, .slice ca2 f.ctx.length cc2, .slice oa2 f.out.length oc2, .int .i64 f.steps] 49)) := (Below.refl _ _).alloc (Nat.le_refl _) _
    obtain ⟨g1, g2, g3, g4⟩ := H4.out
    exact ⟨g1.trans (hbb.mono g1.size), g2.below hbb g2.lt, g3.below hbb, heap_new1 _ _, g4.below hbb⟩
  rintro Z2 ⟨g1, g2, g3, g4, g5⟩
  have HZ2 := Lib.hid (And.intro g1 (And.intro g2 (And.intro g3 (And.intro g4 g5))))
  clear g1 g2 g3 g4 g5 H4
  go_wp2_with fail
  refine (awake_true Z2).mono ?_
  rintro e Z3 ⟨rfl, hb3⟩
  obtain ⟨g1, g2, g3, g4, g5⟩ := HZ2.out
  have n1 := g2.below hb3 g2.lt
  have n2 := g4.below hb3 g4.lt
  have m0 : Z3.cell? ⟨Y1.heap.size, 0, none⟩ = some (.slice qa1 f.arr.length cq1) := n1.cell 0
  have m1 : Z3.cell? ⟨Y1.heap.size, 0 + 1, none⟩ = some (.slice ca1 f.ctx.length cc1) := n1.cell 1
  have m2 : Z3.cell? ⟨Y1.heap.size, 0 + 1 + 1, none⟩ = some (.slice oa1 f.out.length oc1) := n1.cell 2
  have m3 : Z3.cell? ⟨Y1.heap.size, 0 + 1 + 1 + 1, none⟩ = some (.int .i64 f.steps) := n1.cell 3
  have p0 : Z3.cell? ⟨Y2.heap.size, 0, none⟩ = some (.slice qa2 f.arr.length cq2) := n2.cell 0
  have p1 : Z3.cell? ⟨Y2.heap.size, 0 + 1, none⟩ = some (.slice ca2 f.ctx.length cc2) := n2.cell 1
  have p2 : Z3.cell? ⟨Y2.heap.size, 0 + 1 + 1, none⟩ = some (.slice oa2 f.out.length oc2) := n2.cell 2
  have p3 : Z3.cell? ⟨Y2.heap.size, 0 + 1 + 1 + 1, none⟩ = some (.int .i64 f.steps) := n2.cell 3
  have HSA := Lib.hid (same_run _ _ f.steps f.arr f.ctx f.out Z3 (g3.below hb3) (g5.below hb3) (by omega) (by omega) (fun a ha => by have := HSM.out a ha; omega))
  have H9 := Lib.hid (g1.trans (hb3.mono g1.size))
  clear hb3 g1 g2 g3 g4 g5 n1 n2 HZ2
  go_wp2_with fail
  refine HSA.out.mono ?_
  rintro e W8 ⟨rfl, hb8⟩
  have HB := Lib.hid (H9.out.trans (hb8.mono H9.out.size))
  have hee : (f.er == f.er) = true := by simp
  clear hb8 m0 m1 m2 m3 p0 p1 p2 p3
  go_wp2
  go_ret
  exact ⟨rfl, HB.out⟩
end
theorem feeds_walk (ars : List Ar) (regs spills : Int) (cd : List RI) (dA : Option Addr) (dC : Nat) (data : List Int) (fuel : Int) (v : Value) (w : World) (hc : CodeAt w ars regs spills cd v) (ok : CodeOk ars regs spills cd)
    (hD : RowB w.heap.size w 1 dA data.length fun j _ => .int .u8 (data.getD j 0)) (hd8 : ∀ n ∈ data, 0 ≤ n ∧ n < 256) :
    Calls Try.prog 7 #[v, .slice dA data.length dC, .int .i64 fuel] w fun e w' => e = .returned (.bool true) ∧ Below w.heap.size w w' := by
  obtain ⟨arsA, arsC, codeA, codeC, rfl, hA, hC⟩ := hc
  cases h1 : fewB ars cd with
  | false => exact feeds_idle arsA codeA dA arsC codeC dC ars regs spills cd data fuel w hA (.inl h1)
  | true =>
    by_cases h2 : 60 < data.length
    · exact feeds_idle arsA codeA dA arsC codeC dC ars regs spills cd data fuel w hA (.inr (.inl h2))
    cases h3 : lightB fuel with
    | false => exact feeds_idle arsA codeA dA arsC codeC dC ars regs spills cd data fuel w hA (.inr (.inr h3))
    | true =>
      refine feeds_main arsA codeA dA arsC codeC dC ars regs spills cd data fuel w hA hC hD ok hd8 h1 (by omega) h3 _ rfl ?_ ?_ ?_
      all_goals cases hr : feedRes ars regs spills cd data fuel with
        | error n => simp [frFS]
        | ok a =>
          obtain ⟨G, g⟩ := feedRes_good ok.arg hd8 hr
          obtain ⟨g1, g2, g3⟩ := fits_small g.fit G.hars
          have := G.hnA
          simp only [frFS]
          first
            | exact g3
            | omega
end Go.Proofs.Ytefdnjhhaejgbaa

namespace Go.Proofs.Ytefdnjhhaejgbaa.machineFeeds
open Go.ChangeShapes Go.WideShapes Go.ChangeAt Go.RowKit
open Go.ChangeMaps (open_string shut_string)
set_option linter.unusedVariables false

theorem own : ownKnob Try.prog.godebug = none := by kernel_rfl
theorem params_read : (Try.f7.params.toList.all fun t => Try.prog.readableRec t && decide (t < Try.prog.types.size)) = true := by kernel_rfl
theorem laid : laidOutB Try.prog = true := by kernel_rfl
theorem params_len : Try.f7.params.toList.length = 3 := by kernel_rfl

set_option maxRecDepth 100000 in
theorem lifted (os : Os) (started : os.Started) (H : Type) (enc : TypeId × Value → H) :
    ReturnsInHanded {} Try.checked os 7 .any (Rows.machineFeedsSpec.pre6 enc Try.prog Try.f7 Rows.machineFeedsRow.domain false) (Rows.machineFeedsSpec.post enc Try.prog Try.f7 false true false false) := by
  refine law_row (C := Try.checked) (k := 7) (f := Try.f7) (s := Rows.machineFeedsSpec) (tb := 4) own started (by kernel_rfl) Try.func7
    (ChangeSpec.witness6 (enc := enc) (C := Try.checked) false ⟨#[], #[.agg #[.slice none 0 0, .int .i64 0, .int .i64 0, .slice none 0 0], .slice none 0 0, .int .i64 0], []⟩ 8 (by kernel_rfl) (by kernel_rfl) (by kernel_rfl) (by kernel_rfl))
    laid ?_ rfl ?_ (by kernel_rfl) Try.underlying4 ?_
  · intro t ht
    have := List.all_eq_true.1 params_read t ht
    rw [Bool.and_eq_true, decide_eq_true_eq] at this
    exact this
  · intro ds hds
    rw [params_len] at hds
    match ds, hds with
    | [a, b, c], _ => rfl
  · intro W base args ds p hval hA
    rw [Try.params7] at hA hval
    obtain ⟨v0, vs0, d0, ds0, p0, q0, hargs, rfl, rfl, h0, r0⟩ := trodAll_cons hA
    obtain ⟨v1, vs1, d1, ds1, p1, q1, rfl, rfl, rfl, h1, r1⟩ := trodAll_cons r0
    obtain ⟨v2, vs2, d2, ds2, p2, q2, rfl, rfl, rfl, h2, r2⟩ := trodAll_cons r1
    obtain ⟨rfl, rfl, rfl⟩ := trodAll_nil r2
    obtain rfl : args = #[v0, v1, v2] := by cases args; simp_all
    obtain ⟨ars, regs, spills, cd, hc, ok⟩ := open_code (hval 0 _ v0 rfl rfl) h0
    obtain ⟨dA, dC, data, rfl, _, hD, hd8⟩ := open_bytes (hval 1 _ v1 rfl rfl) h1
    obtain ⟨m2, rfl, rfl, rfl, w2⟩ := open_int Try.underlying3 (hval 2 _ v2 rfl rfl) h2
    exact feeds_walk ars regs spills cd dA dC data m2 v0 W hc ok hD hd8

theorem over : Rows.machineFeedsRow.holds Try.pinned (OpenSpec.ofChange Rows.machineFeedsSpec) :=
  OpenClaim.holds_of_wide 7 Try.f7 rfl rfl rfl rfl rfl rfl rfl ⟨rfl, rfl, rfl, rfl, rfl⟩ rfl rfl rfl rfl rfl (by kernel_rfl) Try.func7 (by kernel_rfl)
    (of_decide_eq_true (by kernel_rfl)) (by unfold Func.isWrapper; first | (rw [if_pos (by decide +kernel)]; kernel_rfl) | (rw [if_neg (by decide +kernel)]; exact ⟨rfl, rfl⟩))
    (fun os started H enc _ => lifted os started H enc)

/-- ████ THE STATEMENT ████ -/
theorem proved : Rows.MachineFeedsSaid :=
  over
#print axioms proved
end Go.Proofs.Ytefdnjhhaejgbaa.machineFeeds
