-- thin
-- printed by a program out of Lean's own print of the program (the kit's print.py, one namespace for several laws)
import Derived.Test.YtidomjhihfoabaaPFx0
import Derived.Test.YtidomjhihfoabaaPFx21
namespace Go.Proofs.Ytidomjhihfoabaa.PF
open Go.RowKit Go.Proofs.YtidomjhihfoabaaW.PrintWords Go.Proofs.YtidomjhihfoabaaW.PrintLast Go.Proofs.YtidomjhihfoabaaW.PrintMore
attribute [local go_sem] max2_int min2_int max_two min_two max_three min_three max_four min_four   -- for this text's walks alone
set_option linter.unusedVariables false
set_option linter.unusedSimpArgs false

/-! ### codewrightref51_Free: function 33 -/
def codewrightref51_Free.l0 : Nat → List Int → Int → Int → List (S36) → Option (Int)
 | 0, _, _, _, _ => none
 | k + 1, x4, x12, x433000, x433001 => if x12 < (x4.length : Int) then (if 0 ≤ x12 then (if (rd x4 x12) < 0 then (some 5) else (if (rd x4 x12) ≥ (x433001.length : Int) then (some 5) else (if x12 > 0 then (if 0 ≤ (wrap64 (x12 - 1)) then (if (wrap64 (x12 - 1)) < (x4.length : Int) then (if (rd x4 x12) ≤ (rd x4 (wrap64 (x12 - 1))) then (some 5) else (codewrightref51_Free.l0 k x4 (wrap64 (x12 + 1)) x433000 x433001)) else (none)) else (none)) else (codewrightref51_Free.l0 k x4 (wrap64 (x12 + 1)) x433000 x433001)))) else (none)) else (some 0)
def codewrightref51_Free.f (k : Nat) (a0_0 : Int) (l0_1 : List (S36)) (a1 : Int) (a2 : Int) (a3 : Int) (l4 : List Int) : Option (Int) := (codewrightref51_Ends.f k a0_0 l0_1 a1 a2).bind fun t433 => (if t433 = 0 then (if a3 < 0 then (some 6) else (codewrightref51_Free.l0 k l4 0 a0_0 l0_1)) else (some t433))
theorem codewrightref51_Free.mono_l : ∀ k, (∀ y0 y1 y2 y3, LeO (codewrightref51_Free.l0 k y0 y1 y2 y3) (codewrightref51_Free.l0 (k + 1) y0 y1 y2 y3))
 | 0 => fun _ _ _ _ r h => by simp [codewrightref51_Free.l0] at h
 | k + 1 => by
  have ih0 := codewrightref51_Free.mono_l k
  ·intro y0 y1 y2 y3
   unfold codewrightref51_Free.l0
   repeat' first
   | (with_reducible exact ih0 _ _ _ _)
   | (with_reducible exact codewrightref51_Ends.mono _ _ _ _ _)
   | (with_reducible exact LeO.refl _)
   | (with_reducible exact LeO.none _)
   | (with_reducible refine LeO.ite ?_ ?_)
   | (with_reducible refine LeO.bind ?_ (fun _ => ?_))
   | exact ih0 _ _ _ _
   | exact codewrightref51_Ends.mono _ _ _ _ _
   | exact LeO.none _
   | refine LeO.ite ?_ ?_
   | refine LeO.bind ?_ (fun _ => ?_)
theorem codewrightref51_Free.mono : ∀ a0 a1 a2 a3 a4 a5 k, LeO (codewrightref51_Free.f k a0 a1 a2 a3 a4 a5) (codewrightref51_Free.f (k + 1) a0 a1 a2 a3 a4 a5) := by
 intro a0 a1 a2 a3 a4 a5 k
 have ih0 := codewrightref51_Free.mono_l k
 unfold codewrightref51_Free.f
 repeat' first
   | (with_reducible exact ih0 _ _ _ _)
   | (with_reducible exact codewrightref51_Ends.mono _ _ _ _ _)
   | (with_reducible exact LeO.refl _)
   | (with_reducible exact LeO.none _)
   | (with_reducible refine LeO.ite ?_ ?_)
   | (with_reducible refine LeO.bind ?_ (fun _ => ?_))
   | exact ih0 _ _ _ _
   | exact codewrightref51_Ends.mono _ _ _ _ _
   | exact LeO.none _
   | refine LeO.ite ?_ ?_
   | refine LeO.bind ?_ (fun _ => ?_)
set_option maxHeartbeats 8000000 in
set_option maxRecDepth 100000 in
theorem codewrightref51_Free.calls (k : Nat) (a0_0 : Int) (A0_1 : Option Addr) (c0_1 : Nat) (l0_1 : List (S36)) (a1 : Int) (a2 : Int) (a3 : Int) (A4 : Option Addr) (c4 : Nat) (l4 : List Int) (r : Int) (w : World) (hr0_1 : Kd.C k36 w A0_1 l0_1.length l0_1) (hc0_1 : l0_1.length ≤ c0_1) (hr4 : Kd.C (Kd.int .i64) w A4 l4.length l4) (hc4 : l4.length ≤ c4) (h : codewrightref51_Free.f k a0_0 l0_1 a1 a2 a3 l4 = some r) :
  Calls Try.prog 33 #[.agg #[.int .i64 a0_0, .slice A0_1 l0_1.length c0_1], .int .i64 a1, .int .i64 a2, .int .i64 a3, .slice A4 l4.length c4] w fun e w' => e = .returned (.int .i64 r) ∧ Below w.heap.size w w' := by
 have hu24 := Try.underlying24
 have HR0_1 := Aside0.mk hr0_1
 have HC0_1 := Aside0.mk hc0_1
 clear hr0_1 hc0_1
 have HR4 := Aside0.mk hr4
 have HC4 := Aside0.mk hc4
 clear hr4 hc4
 have HB := Aside0.mk (Below.refl w.heap.size w)
 have H : ((codewrightref51_Ends.f k a0_0 l0_1 a1 a2).bind fun t433 => (if t433 = 0 then (if a3 < 0 then (some 6) else (codewrightref51_Free.l0 k l4 0 a0_0 l0_1)) else (some t433))) = some r := h
 clear h
 replace H := Option.bind_eq_some_iff.mp H
 obtain ⟨t433, A60, H⟩ := H
 replace H : (if t433 = 0 then (if a3 < 0 then (some 6) else (codewrightref51_Free.l0 k l4 0 a0_0 l0_1)) else (some t433)) = some r := H
 have A6 := Aside0.mk A60
 clear A60
 by_cases c7 : t433 = 0
 ·rw [if_pos c7] at H
  have c7b0 : (t433 == 0) = true := beq_iff_eq.mpr c7
  have c7b1 : (t433 != 0) = false := bne_eq_false_iff_eq.mpr c7
  clear c7
  by_cases c8 : a3 < 0
  ·rw [if_pos c8] at H
   have c8b0 : decide (a3 < 0) = true := decide_eq_true c8
   clear c8
   obtain rfl := Option.some.inj H
   go_enter Try.func33, Try.ntmps33
   go_wp2_with (first | ((with_reducible refine gate_dst (N := 5) rfl ?_); (try (refine gate_guard (by rfl) ?_; dsimp only)); refine box_event ?hg (N := 5) ?hd (cs := #[.int .i64 a0_0, .slice A0_1 l0_1.length c0_1]) (t := 24) ?hr ?_; (case hd => rfl); (case hg => rfl); (case hr => first | (go_simp; done) | (go_simp; rfl)); intro gb432 hg w9 hbox hb; have n0_ := Aside0.mk (below_step (by repeat (first | (with_reducible first | exact HB.out | apply below_alloc | apply pw_below_drewN | apply below_drew1) | exact HB.out)) hb); have n1_ := Aside0.mk (hbox); have n2_ := Aside0.mk ((by rw [hg]; exact (below_size (by repeat (first | (with_reducible first | exact HB.out | apply below_alloc | apply pw_below_drewN | apply below_drew1) | exact HB.out))) : w.heap.size ≤ gb432)); have n3_ := Aside0.mk ((by rw [hg]; exact (below_size (by repeat (first | (with_reducible first | exact HB.out | apply below_alloc | apply pw_below_drewN | apply below_drew1) | exact HB.out))) : w.heap.size ≤ gb432)); clear HB; have HB := n0_; have BK432 := n1_; have GW432 := n2_; have GE432 := n3_; clear n0_ n1_ n2_ n3_; clear hb hbox hg; have hcz10_0 : w9.cell? ⟨gb432, 0, none⟩ = some (.int .i64 a0_0) := (blk_cell BK432.out 0).trans rfl; have hcz10_1 : w9.cell? ⟨gb432, 1, none⟩ = some (.slice A0_1 l0_1.length c0_1) := (blk_cell BK432.out 1).trans rfl; have hfz10_0 := blk_frozen BK432.out 0; have hfz10_1 := blk_frozen BK432.out 1) | (go_at_call 21; (with_reducible refine (codewrightref51_Ends.calls k a0_0 _ _ l0_1 a1 a2 t433 _ ?side1 ?side2 A6.out).mono ?_); (case side1 => repeat (first | exact (Kd.C_below HR0_1.out HB.out) | (with_reducible refine Kd.C_alloc ?_ _) | (with_reducible refine Kd.C_drewN ?_ _) | (with_reducible refine Kd.C_drew ?_))); (case side2 => exact HC0_1.out); rintro e w11 ⟨rfl, hb⟩; have n0_ := Aside0.mk (blk_below (g := gb432) (o := .cells #[.int .i64 a0_0, .slice A0_1 l0_1.length c0_1] 24 (0, 0)) (by (with_reducible repeat (first | refine blk_drewN ?_ _ | refine blk_drew ?_ | refine blk_alloc ?_ _)); exact BK432.out) hb); have n1_ := Aside0.mk (below_step (by repeat (first | (with_reducible first | exact HB.out | apply below_alloc | apply pw_below_drewN | apply below_drew1 | refine below_set ?_ GE432.out) | exact HB.out)) hb); clear BK432; clear HB; have BK432 := n0_; have HB := n1_; clear n0_ n1_; (try clear hb); (try clear hb2); (try clear hk); (try clear hi)))
   repeat (go_quiet (first | ((with_reducible refine gate_dst (N := 5) rfl ?_); (try (refine gate_guard (by rfl) ?_; dsimp only)); refine box_event ?hg (N := 5) ?hd (cs := #[.int .i64 a0_0, .slice A0_1 l0_1.length c0_1]) (t := 24) ?hr ?_; (case hd => rfl); (case hg => rfl); (case hr => first | (go_simp; done) | (go_simp; rfl)); intro gb432 hg w9 hbox hb; have n0_ := Aside0.mk (below_step (by repeat (first | (with_reducible first | exact HB.out | apply below_alloc | apply pw_below_drewN | apply below_drew1) | exact HB.out)) hb); have n1_ := Aside0.mk (hbox); have n2_ := Aside0.mk ((by rw [hg]; exact (below_size (by repeat (first | (with_reducible first | exact HB.out | apply below_alloc | apply pw_below_drewN | apply below_drew1) | exact HB.out))) : w.heap.size ≤ gb432)); have n3_ := Aside0.mk ((by rw [hg]; exact (below_size (by repeat (first | (with_reducible first | exact HB.out | apply below_alloc | apply pw_below_drewN | apply below_drew1) | exact HB.out))) : w.heap.size ≤ gb432)); clear HB; have HB := n0_; have BK432 := n1_; have GW432 := n2_; have GE432 := n3_; clear n0_ n1_ n2_ n3_; clear hb hbox hg; have hcz10_0 : w9.cell? ⟨gb432, 0, none⟩ = some (.int .i64 a0_0) := (blk_cell BK432.out 0).trans rfl; have hcz10_1 : w9.cell? ⟨gb432, 1, none⟩ = some (.slice A0_1 l0_1.length c0_1) := (blk_cell BK432.out 1).trans rfl; have hfz10_0 := blk_frozen BK432.out 0; have hfz10_1 := blk_frozen BK432.out 1) | (go_at_call 21; (with_reducible refine (codewrightref51_Ends.calls k a0_0 _ _ l0_1 a1 a2 t433 _ ?side1 ?side2 A6.out).mono ?_); (case side1 => repeat (first | exact (Kd.C_below HR0_1.out HB.out) | (with_reducible refine Kd.C_alloc ?_ _) | (with_reducible refine Kd.C_drewN ?_ _) | (with_reducible refine Kd.C_drew ?_))); (case side2 => exact HC0_1.out); rintro e w11 ⟨rfl, hb⟩; have n0_ := Aside0.mk (blk_below (g := gb432) (o := .cells #[.int .i64 a0_0, .slice A0_1 l0_1.length c0_1] 24 (0, 0)) (by (with_reducible repeat (first | refine blk_drewN ?_ _ | refine blk_drew ?_ | refine blk_alloc ?_ _)); exact BK432.out) hb); have n1_ := Aside0.mk (below_step (by repeat (first | (with_reducible first | exact HB.out | apply below_alloc | apply pw_below_drewN | apply below_drew1 | refine below_set ?_ GE432.out) | exact HB.out)) hb); clear BK432; clear HB; have BK432 := n0_; have HB := n1_; clear n0_ n1_; (try clear hb); (try clear hb2); (try clear hk); (try clear hi))); try go_wp2_with (first | ((with_reducible refine gate_dst (N := 5) rfl ?_); (try (refine gate_guard (by rfl) ?_; dsimp only)); refine box_event ?hg (N := 5) ?hd (cs := #[.int .i64 a0_0, .slice A0_1 l0_1.length c0_1]) (t := 24) ?hr ?_; (case hd => rfl); (case hg => rfl); (case hr => first | (go_simp; done) | (go_simp; rfl)); intro gb432 hg w9 hbox hb; have n0_ := Aside0.mk (below_step (by repeat (first | (with_reducible first | exact HB.out | apply below_alloc | apply pw_below_drewN | apply below_drew1) | exact HB.out)) hb); have n1_ := Aside0.mk (hbox); have n2_ := Aside0.mk ((by rw [hg]; exact (below_size (by repeat (first | (with_reducible first | exact HB.out | apply below_alloc | apply pw_below_drewN | apply below_drew1) | exact HB.out))) : w.heap.size ≤ gb432)); have n3_ := Aside0.mk ((by rw [hg]; exact (below_size (by repeat (first | (with_reducible first | exact HB.out | apply below_alloc | apply pw_below_drewN | apply below_drew1) | exact HB.out))) : w.heap.size ≤ gb432)); clear HB; have HB := n0_; have BK432 := n1_; have GW432 := n2_; have GE432 := n3_; clear n0_ n1_ n2_ n3_; clear hb hbox hg; have hcz10_0 : w9.cell? ⟨gb432, 0, none⟩ = some (.int .i64 a0_0) := (blk_cell BK432.out 0).trans rfl; have hcz10_1 : w9.cell? ⟨gb432, 1, none⟩ = some (.slice A0_1 l0_1.length c0_1) := (blk_cell BK432.out 1).trans rfl; have hfz10_0 := blk_frozen BK432.out 0; have hfz10_1 := blk_frozen BK432.out 1) | (go_at_call 21; (with_reducible refine (codewrightref51_Ends.calls k a0_0 _ _ l0_1 a1 a2 t433 _ ?side1 ?side2 A6.out).mono ?_); (case side1 => repeat (first | exact (Kd.C_below HR0_1.out HB.out) | (with_reducible refine Kd.C_alloc ?_ _) | (with_reducible refine Kd.C_drewN ?_ _) | (with_reducible refine Kd.C_drew ?_))); (case side2 => exact HC0_1.out); rintro e w11 ⟨rfl, hb⟩; have n0_ := Aside0.mk (blk_below (g := gb432) (o := .cells #[.int .i64 a0_0, .slice A0_1 l0_1.length c0_1] 24 (0, 0)) (by (with_reducible repeat (first | refine blk_drewN ?_ _ | refine blk_drew ?_ | refine blk_alloc ?_ _)); exact BK432.out) hb); have n1_ := Aside0.mk (below_step (by repeat (first | (with_reducible first | exact HB.out | apply below_alloc | apply pw_below_drewN | apply below_drew1 | refine below_set ?_ GE432.out) | exact HB.out)) hb); clear BK432; clear HB; have BK432 := n0_; have HB := n1_; clear n0_ n1_; (try clear hb); (try clear hb2); (try clear hk); (try clear hi))))
   go_ret
   exact ⟨by first | rfl | (simp [errW_none, errW_some] <;> rfl) | (simp [*, errW_none, errW_some] <;> rfl), by repeat (first | (with_reducible first | exact HB.out | apply below_alloc | apply pw_below_drewN | apply below_drew1 | refine below_set ?_ GE432.out) | exact HB.out)⟩
  ·rw [if_neg c8] at H
   have c8b0 : decide (a3 < 0) = false := decide_eq_false c8
   clear c8
   have H' := Aside0.mk H
   clear H
   go_enter Try.func33, Try.ntmps33
   go_wp2_with (first | ((with_reducible refine gate_dst (N := 5) rfl ?_); (try (refine gate_guard (by rfl) ?_; dsimp only)); refine box_event ?hg (N := 5) ?hd (cs := #[.int .i64 a0_0, .slice A0_1 l0_1.length c0_1]) (t := 24) ?hr ?_; (case hd => rfl); (case hg => rfl); (case hr => first | (go_simp; done) | (go_simp; rfl)); intro gb432 hg w12 hbox hb; have n0_ := Aside0.mk (below_step (by repeat (first | (with_reducible first | exact HB.out | apply below_alloc | apply pw_below_drewN | apply below_drew1) | exact HB.out)) hb); have n1_ := Aside0.mk (hbox); have n2_ := Aside0.mk ((by rw [hg]; exact (below_size (by repeat (first | (with_reducible first | exact HB.out | apply below_alloc | apply pw_below_drewN | apply below_drew1) | exact HB.out))) : w.heap.size ≤ gb432)); have n3_ := Aside0.mk ((by rw [hg]; exact (below_size (by repeat (first | (with_reducible first | exact HB.out | apply below_alloc | apply pw_below_drewN | apply below_drew1) | exact HB.out))) : w.heap.size ≤ gb432)); clear HB; have HB := n0_; have BK432 := n1_; have GW432 := n2_; have GE432 := n3_; clear n0_ n1_ n2_ n3_; clear hb hbox hg; have hcz13_0 : w12.cell? ⟨gb432, 0, none⟩ = some (.int .i64 a0_0) := (blk_cell BK432.out 0).trans rfl; have hcz13_1 : w12.cell? ⟨gb432, 1, none⟩ = some (.slice A0_1 l0_1.length c0_1) := (blk_cell BK432.out 1).trans rfl; have hfz13_0 := blk_frozen BK432.out 0; have hfz13_1 := blk_frozen BK432.out 1) | (go_at_call 21; (with_reducible refine (codewrightref51_Ends.calls k a0_0 _ _ l0_1 a1 a2 t433 _ ?side1 ?side2 A6.out).mono ?_); (case side1 => repeat (first | exact (Kd.C_below HR0_1.out HB.out) | (with_reducible refine Kd.C_alloc ?_ _) | (with_reducible refine Kd.C_drewN ?_ _) | (with_reducible refine Kd.C_drew ?_))); (case side2 => exact HC0_1.out); rintro e w14 ⟨rfl, hb⟩; have n0_ := Aside0.mk (blk_below (g := gb432) (o := .cells #[.int .i64 a0_0, .slice A0_1 l0_1.length c0_1] 24 (0, 0)) (by (with_reducible repeat (first | refine blk_drewN ?_ _ | refine blk_drew ?_ | refine blk_alloc ?_ _)); exact BK432.out) hb); have n1_ := Aside0.mk (below_step (by repeat (first | (with_reducible first | exact HB.out | apply below_alloc | apply pw_below_drewN | apply below_drew1 | refine below_set ?_ GE432.out) | exact HB.out)) hb); clear BK432; clear HB; have BK432 := n0_; have HB := n1_; clear n0_ n1_; (try clear hb); (try clear hb2); (try clear hk); (try clear hi)))
   repeat (go_quiet (first | ((with_reducible refine gate_dst (N := 5) rfl ?_); (try (refine gate_guard (by rfl) ?_; dsimp only)); refine box_event ?hg (N := 5) ?hd (cs := #[.int .i64 a0_0, .slice A0_1 l0_1.length c0_1]) (t := 24) ?hr ?_; (case hd => rfl); (case hg => rfl); (case hr => first | (go_simp; done) | (go_simp; rfl)); intro gb432 hg w12 hbox hb; have n0_ := Aside0.mk (below_step (by repeat (first | (with_reducible first | exact HB.out | apply below_alloc | apply pw_below_drewN | apply below_drew1) | exact HB.out)) hb); have n1_ := Aside0.mk (hbox); have n2_ := Aside0.mk ((by rw [hg]; exact (below_size (by repeat (first | (with_reducible first | exact HB.out | apply below_alloc | apply pw_below_drewN | apply below_drew1) | exact HB.out))) : w.heap.size ≤ gb432)); have n3_ := Aside0.mk ((by rw [hg]; exact (below_size (by repeat (first | (with_reducible first | exact HB.out | apply below_alloc | apply pw_below_drewN | apply below_drew1) | exact HB.out))) : w.heap.size ≤ gb432)); clear HB; have HB := n0_; have BK432 := n1_; have GW432 := n2_; have GE432 := n3_; clear n0_ n1_ n2_ n3_; clear hb hbox hg; have hcz13_0 : w12.cell? ⟨gb432, 0, none⟩ = some (.int .i64 a0_0) := (blk_cell BK432.out 0).trans rfl; have hcz13_1 : w12.cell? ⟨gb432, 1, none⟩ = some (.slice A0_1 l0_1.length c0_1) := (blk_cell BK432.out 1).trans rfl; have hfz13_0 := blk_frozen BK432.out 0; have hfz13_1 := blk_frozen BK432.out 1) | (go_at_call 21; (with_reducible refine (codewrightref51_Ends.calls k a0_0 _ _ l0_1 a1 a2 t433 _ ?side1 ?side2 A6.out).mono ?_); (case side1 => repeat (first | exact (Kd.C_below HR0_1.out HB.out) | (with_reducible refine Kd.C_alloc ?_ _) | (with_reducible refine Kd.C_drewN ?_ _) | (with_reducible refine Kd.C_drew ?_))); (case side2 => exact HC0_1.out); rintro e w14 ⟨rfl, hb⟩; have n0_ := Aside0.mk (blk_below (g := gb432) (o := .cells #[.int .i64 a0_0, .slice A0_1 l0_1.length c0_1] 24 (0, 0)) (by (with_reducible repeat (first | refine blk_drewN ?_ _ | refine blk_drew ?_ | refine blk_alloc ?_ _)); exact BK432.out) hb); have n1_ := Aside0.mk (below_step (by repeat (first | (with_reducible first | exact HB.out | apply below_alloc | apply pw_below_drewN | apply below_drew1 | refine below_set ?_ GE432.out) | exact HB.out)) hb); clear BK432; clear HB; have BK432 := n0_; have HB := n1_; clear n0_ n1_; (try clear hb); (try clear hb2); (try clear hk); (try clear hi))); try go_wp2_with (first | ((with_reducible refine gate_dst (N := 5) rfl ?_); (try (refine gate_guard (by rfl) ?_; dsimp only)); refine box_event ?hg (N := 5) ?hd (cs := #[.int .i64 a0_0, .slice A0_1 l0_1.length c0_1]) (t := 24) ?hr ?_; (case hd => rfl); (case hg => rfl); (case hr => first | (go_simp; done) | (go_simp; rfl)); intro gb432 hg w12 hbox hb; have n0_ := Aside0.mk (below_step (by repeat (first | (with_reducible first | exact HB.out | apply below_alloc | apply pw_below_drewN | apply below_drew1) | exact HB.out)) hb); have n1_ := Aside0.mk (hbox); have n2_ := Aside0.mk ((by rw [hg]; exact (below_size (by repeat (first | (with_reducible first | exact HB.out | apply below_alloc | apply pw_below_drewN | apply below_drew1) | exact HB.out))) : w.heap.size ≤ gb432)); have n3_ := Aside0.mk ((by rw [hg]; exact (below_size (by repeat (first | (with_reducible first | exact HB.out | apply below_alloc | apply pw_below_drewN | apply below_drew1) | exact HB.out))) : w.heap.size ≤ gb432)); clear HB; have HB := n0_; have BK432 := n1_; have GW432 := n2_; have GE432 := n3_; clear n0_ n1_ n2_ n3_; clear hb hbox hg; have hcz13_0 : w12.cell? ⟨gb432, 0, none⟩ = some (.int .i64 a0_0) := (blk_cell BK432.out 0).trans rfl; have hcz13_1 : w12.cell? ⟨gb432, 1, none⟩ = some (.slice A0_1 l0_1.length c0_1) := (blk_cell BK432.out 1).trans rfl; have hfz13_0 := blk_frozen BK432.out 0; have hfz13_1 := blk_frozen BK432.out 1) | (go_at_call 21; (with_reducible refine (codewrightref51_Ends.calls k a0_0 _ _ l0_1 a1 a2 t433 _ ?side1 ?side2 A6.out).mono ?_); (case side1 => repeat (first | exact (Kd.C_below HR0_1.out HB.out) | (with_reducible refine Kd.C_alloc ?_ _) | (with_reducible refine Kd.C_drewN ?_ _) | (with_reducible refine Kd.C_drew ?_))); (case side2 => exact HC0_1.out); rintro e w14 ⟨rfl, hb⟩; have n0_ := Aside0.mk (blk_below (g := gb432) (o := .cells #[.int .i64 a0_0, .slice A0_1 l0_1.length c0_1] 24 (0, 0)) (by (with_reducible repeat (first | refine blk_drewN ?_ _ | refine blk_drew ?_ | refine blk_alloc ?_ _)); exact BK432.out) hb); have n1_ := Aside0.mk (below_step (by repeat (first | (with_reducible first | exact HB.out | apply below_alloc | apply pw_below_drewN | apply below_drew1 | refine below_set ?_ GE432.out) | exact HB.out)) hb); clear BK432; clear HB; have BK432 := n0_; have HB := n1_; clear n0_ n1_; (try clear hb); (try clear hb2); (try clear hk); (try clear hi))))
   go_loopg [12] k (fun kq v12 w' => ∃ (x12_1 : Int), v12 = .int .i64 x12_1 ∧ Aside0 (codewrightref51_Free.l0 kq l4 x12_1 a0_0 l0_1 = some r) ∧ Aside0 (kq ≤ k) ∧ Aside0 (w'.heap[gb432]? = some (.cells #[.int .i64 a0_0, (.slice A0_1 l0_1.length c0_1)] 24 (0, 0))) ∧ Aside0 (Below w.heap.size w w'))
   case atStart => exact ⟨(0), (by first | rfl | (simp; done) | (simp [*]; done)), H', ⟨Nat.le_refl _⟩, ⟨by (with_reducible repeat (first | refine blk_drewN ?_ _ | refine blk_drew ?_ | refine blk_alloc ?_ _)); exact BK432.out⟩, ⟨by repeat (first | (with_reducible first | exact HB.out | apply below_alloc | apply pw_below_drewN | apply below_drew1 | refine below_set ?_ GE432.out) | exact HB.out)⟩⟩
   case round =>
    clear H'
    try clear p2
    try clear c3
    try clear c4
    try clear c7
    try clear c7b0
    try clear c7b1
    try clear c8
    try clear c8b0
    try clear hcz10_0
    try clear hcz10_1
    try clear hcz13_0
    try clear hcz13_1
    try clear hfz10_0
    try clear hfz10_1
    try clear hfz13_0
    try clear hfz13_1
    obtain ⟨x12_1, rfl, HA, HK1, BK432, HB⟩ := hrel
    cases gk with
    | zero => exact absurd HA.out (by simp [codewrightref51_Free.l0])
    | succ k1 =>
     have H := HA.out
     clear HA
     simp only [codewrightref51_Free.l0] at H
     by_cases c15 : x12_1 < (l4.length : Int)
     ·rw [if_pos c15] at H
      have c15b0 : decide (x12_1 < (l4.length : Int)) = true := decide_eq_true c15
      clear c15
      by_cases c16 : 0 ≤ x12_1
      ·rw [if_pos c16] at H
       have c16b0 : decide (0 ≤ x12_1) = true := decide_eq_true c16
       clear c16
       by_cases c17 : (rd l4 x12_1) < 0
       ·rw [if_pos c17] at H
        have c17b0 : decide ((rd l4 x12_1) < 0) = true := decide_eq_true c17
        clear c17
        obtain rfl := Option.some.inj H
        have p434 : 0 ≤ (x12_1 : Int) := of_decide_eq_true (by first | (with_reducible assumption) | assumption)
        have q434 : x12_1 < (l4.length : Int) := of_decide_eq_true (by first | (with_reducible assumption) | assumption)
        obtain ⟨ad434, e434, hx434_0⟩ := Kd.at_int HR4.out x12_1 p434 q434
        cases e434
        replace hx434_0 := (HB.out.cell (World.block_lt_of_cell? w _ hx434_0)).trans hx434_0
        replace p434 := eq_true p434
        replace q434 := eq_true q434
        go_wp2
        repeat (go_quiet (fail); try go_wp2)
        go_ret
        exact ⟨by first | rfl | (simp [errW_none, errW_some] <;> rfl) | (simp [*, errW_none, errW_some] <;> rfl), by repeat (first | (with_reducible first | exact HB.out | apply below_alloc | apply pw_below_drewN | apply below_drew1 | refine below_set ?_ GE432.out) | exact HB.out)⟩
       ·rw [if_neg c17] at H
        have c17b0 : decide ((rd l4 x12_1) < 0) = false := decide_eq_false c17
        clear c17
        by_cases c18 : (rd l4 x12_1) ≥ (l0_1.length : Int)
        ·rw [if_pos c18] at H
         have c18b0 : decide ((l0_1.length : Int) ≤ (rd l4 x12_1)) = true := decide_eq_true c18
         clear c18
         obtain rfl := Option.some.inj H
         have p434 : 0 ≤ (x12_1 : Int) := of_decide_eq_true (by first | (with_reducible assumption) | assumption)
         have q434 : x12_1 < (l4.length : Int) := of_decide_eq_true (by first | (with_reducible assumption) | assumption)
         obtain ⟨ad434, e434, hx434_0⟩ := Kd.at_int HR4.out x12_1 p434 q434
         cases e434
         replace hx434_0 := (HB.out.cell (World.block_lt_of_cell? w _ hx434_0)).trans hx434_0
         replace p434 := eq_true p434
         replace q434 := eq_true q434
         have p435 : 0 ≤ (x12_1 : Int) := of_decide_eq_true (by first | (with_reducible assumption) | assumption)
         have q435 : x12_1 < (l4.length : Int) := of_decide_eq_true (by first | (with_reducible assumption) | assumption)
         obtain ⟨ad435, e435, hx435_0⟩ := Kd.at_int HR4.out x12_1 p435 q435
         obtain rfl : ad434 = ad435 := (by injection e435)
         replace hx435_0 := (HB.out.cell (World.block_lt_of_cell? w _ hx435_0)).trans hx435_0
         replace p435 := eq_true p435
         replace q435 := eq_true q435
         have hcz19_0 : wr.cell? ⟨gb432, 0, none⟩ = some (.int .i64 a0_0) := (blk_cell BK432.out 0).trans rfl
         have hcz19_1 : wr.cell? ⟨gb432, 1, none⟩ = some (.slice A0_1 l0_1.length c0_1) := (blk_cell BK432.out 1).trans rfl
         have hfz19_0 := blk_frozen BK432.out 0
         have hfz19_1 := blk_frozen BK432.out 1
         go_wp2
         repeat (go_quiet (fail); try go_wp2)
         go_ret
         exact ⟨by first | rfl | (simp [errW_none, errW_some] <;> rfl) | (simp [*, errW_none, errW_some] <;> rfl), by repeat (first | (with_reducible first | exact HB.out | apply below_alloc | apply pw_below_drewN | apply below_drew1 | refine below_set ?_ GE432.out) | exact HB.out)⟩
        ·rw [if_neg c18] at H
         have c18b0 : decide ((l0_1.length : Int) ≤ (rd l4 x12_1)) = false := decide_eq_false c18
         clear c18
         by_cases c20 : x12_1 > 0
         ·rw [if_pos c20] at H
          have c20b0 : decide (0 < x12_1) = true := decide_eq_true c20
          clear c20
          obtain ⟨ji21, hji21⟩ : ∃ j_ : Int, (wrap64 (x12_1 - 1)) = j_ := ⟨_, rfl⟩
          replace H : (if 0 ≤ (ji21) then (if (ji21) < (l4.length : Int) then (if (rd l4 x12_1) ≤ (rd l4 (ji21)) then (some 5) else (codewrightref51_Free.l0 k1 l4 (wrap64 (x12_1 + 1)) a0_0 l0_1)) else (none)) else (none)) = some r := by first | (rw [hji21] at H; exact H) | (simp only [hji21] at H ⊢; exact H)
          have hji21w : (IntKind.i64.wrap (x12_1 - 1)) = ji21 := (i64_w _).trans hji21
          by_cases c22 : 0 ≤ (ji21)
          ·rw [if_pos c22] at H
           have c22b0 : decide (0 ≤ (ji21)) = true := decide_eq_true c22
           clear c22
           by_cases c23 : (ji21) < (l4.length : Int)
           ·rw [if_pos c23] at H
            have c23b0 : decide ((ji21) < (l4.length : Int)) = true := decide_eq_true c23
            clear c23
            by_cases c24 : (rd l4 x12_1) ≤ (rd l4 (ji21))
            ·rw [if_pos c24] at H
             have c24b0 : decide ((rd l4 x12_1) ≤ (rd l4 (ji21))) = true := decide_eq_true c24
             clear c24
             obtain rfl := Option.some.inj H
             have p434 : 0 ≤ (x12_1 : Int) := of_decide_eq_true (by first | (with_reducible assumption) | assumption)
             have q434 : x12_1 < (l4.length : Int) := of_decide_eq_true (by first | (with_reducible assumption) | assumption)
             obtain ⟨ad434, e434, hx434_0⟩ := Kd.at_int HR4.out x12_1 p434 q434
             cases e434
             replace hx434_0 := (HB.out.cell (World.block_lt_of_cell? w _ hx434_0)).trans hx434_0
             replace p434 := eq_true p434
             replace q434 := eq_true q434
             have p435 : 0 ≤ (x12_1 : Int) := of_decide_eq_true (by first | (with_reducible assumption) | assumption)
             have q435 : x12_1 < (l4.length : Int) := of_decide_eq_true (by first | (with_reducible assumption) | assumption)
             obtain ⟨ad435, e435, hx435_0⟩ := Kd.at_int HR4.out x12_1 p435 q435
             obtain rfl : ad434 = ad435 := (by injection e435)
             replace hx435_0 := (HB.out.cell (World.block_lt_of_cell? w _ hx435_0)).trans hx435_0
             replace p435 := eq_true p435
             replace q435 := eq_true q435
             have hcz25_0 : wr.cell? ⟨gb432, 0, none⟩ = some (.int .i64 a0_0) := (blk_cell BK432.out 0).trans rfl
             have hcz25_1 : wr.cell? ⟨gb432, 1, none⟩ = some (.slice A0_1 l0_1.length c0_1) := (blk_cell BK432.out 1).trans rfl
             have hfz25_0 := blk_frozen BK432.out 0
             have hfz25_1 := blk_frozen BK432.out 1
             have p436 : 0 ≤ (x12_1 : Int) := of_decide_eq_true (by first | (with_reducible assumption) | assumption)
             have q436 : x12_1 < (l4.length : Int) := of_decide_eq_true (by first | (with_reducible assumption) | assumption)
             obtain ⟨ad436, e436, hx436_0⟩ := Kd.at_int HR4.out x12_1 p436 q436
             obtain rfl : ad434 = ad436 := (by injection e436)
             replace hx436_0 := (HB.out.cell (World.block_lt_of_cell? w _ hx436_0)).trans hx436_0
             replace p436 := eq_true p436
             replace q436 := eq_true q436
             have p437 : 0 ≤ ((ji21) : Int) := of_decide_eq_true (by first | (with_reducible assumption) | assumption)
             have q437 : (ji21) < (l4.length : Int) := of_decide_eq_true (by first | (with_reducible assumption) | assumption)
             obtain ⟨ad437, e437, hx437_0⟩ := Kd.at_int HR4.out (ji21) p437 q437
             obtain rfl : ad434 = ad437 := (by injection e437)
             replace hx437_0 := (HB.out.cell (World.block_lt_of_cell? w _ hx437_0)).trans hx437_0
             replace p437 := eq_true p437
             replace q437 := eq_true q437
             go_wp2
             repeat (go_quiet (fail); try go_wp2)
             go_ret
             exact ⟨by first | rfl | (simp [errW_none, errW_some] <;> rfl) | (simp only [← hji21]; first | rfl | (simp [errW_none, errW_some] <;> rfl)) | (simp [*, errW_none, errW_some] <;> rfl), by repeat (first | (with_reducible first | exact HB.out | apply below_alloc | apply pw_below_drewN | apply below_drew1 | refine below_set ?_ GE432.out) | exact HB.out)⟩
            ·rw [if_neg c24] at H
             have c24b0 : decide ((rd l4 x12_1) ≤ (rd l4 (ji21))) = false := decide_eq_false c24
             clear c24
             have H' := Aside0.mk H
             clear H
             have p434 : 0 ≤ (x12_1 : Int) := of_decide_eq_true (by first | (with_reducible assumption) | assumption)
             have q434 : x12_1 < (l4.length : Int) := of_decide_eq_true (by first | (with_reducible assumption) | assumption)
             obtain ⟨ad434, e434, hx434_0⟩ := Kd.at_int HR4.out x12_1 p434 q434
             cases e434
             replace hx434_0 := (HB.out.cell (World.block_lt_of_cell? w _ hx434_0)).trans hx434_0
             replace p434 := eq_true p434
             replace q434 := eq_true q434
             have p435 : 0 ≤ (x12_1 : Int) := of_decide_eq_true (by first | (with_reducible assumption) | assumption)
             have q435 : x12_1 < (l4.length : Int) := of_decide_eq_true (by first | (with_reducible assumption) | assumption)
             obtain ⟨ad435, e435, hx435_0⟩ := Kd.at_int HR4.out x12_1 p435 q435
             obtain rfl : ad434 = ad435 := (by injection e435)
             replace hx435_0 := (HB.out.cell (World.block_lt_of_cell? w _ hx435_0)).trans hx435_0
             replace p435 := eq_true p435
             replace q435 := eq_true q435
             have hcz26_0 : wr.cell? ⟨gb432, 0, none⟩ = some (.int .i64 a0_0) := (blk_cell BK432.out 0).trans rfl
             have hcz26_1 : wr.cell? ⟨gb432, 1, none⟩ = some (.slice A0_1 l0_1.length c0_1) := (blk_cell BK432.out 1).trans rfl
             have hfz26_0 := blk_frozen BK432.out 0
             have hfz26_1 := blk_frozen BK432.out 1
             have p436 : 0 ≤ (x12_1 : Int) := of_decide_eq_true (by first | (with_reducible assumption) | assumption)
             have q436 : x12_1 < (l4.length : Int) := of_decide_eq_true (by first | (with_reducible assumption) | assumption)
             obtain ⟨ad436, e436, hx436_0⟩ := Kd.at_int HR4.out x12_1 p436 q436
             obtain rfl : ad434 = ad436 := (by injection e436)
             replace hx436_0 := (HB.out.cell (World.block_lt_of_cell? w _ hx436_0)).trans hx436_0
             replace p436 := eq_true p436
             replace q436 := eq_true q436
             have p437 : 0 ≤ ((ji21) : Int) := of_decide_eq_true (by first | (with_reducible assumption) | assumption)
             have q437 : (ji21) < (l4.length : Int) := of_decide_eq_true (by first | (with_reducible assumption) | assumption)
             obtain ⟨ad437, e437, hx437_0⟩ := Kd.at_int HR4.out (ji21) p437 q437
             obtain rfl : ad434 = ad437 := (by injection e437)
             replace hx437_0 := (HB.out.cell (World.block_lt_of_cell? w _ hx437_0)).trans hx437_0
             replace p437 := eq_true p437
             replace q437 := eq_true q437
             go_wp2
             repeat (go_quiet (fail); try go_wp2)
             go_roundg k1
             case measure => have := HK1.out; omega
             case rel => exact ⟨(wrap64 (x12_1 + 1)), (by first | rfl | (simp; done) | (simp [*]; done)), H', ⟨by have := HK1.out; omega⟩, ⟨by (with_reducible repeat (first | refine blk_drewN ?_ _ | refine blk_drew ?_ | refine blk_alloc ?_ _)); exact BK432.out⟩, ⟨by repeat (first | (with_reducible first | exact HB.out | apply below_alloc | apply pw_below_drewN | apply below_drew1 | refine below_set ?_ GE432.out) | exact HB.out)⟩⟩
           ·rw [if_neg c23] at H
            exact absurd H (by simp)
          ·rw [if_neg c22] at H
           exact absurd H (by simp)
         ·rw [if_neg c20] at H
          have c20b0 : decide (0 < x12_1) = false := decide_eq_false c20
          clear c20
          have H' := Aside0.mk H
          clear H
          have p434 : 0 ≤ (x12_1 : Int) := of_decide_eq_true (by first | (with_reducible assumption) | assumption)
          have q434 : x12_1 < (l4.length : Int) := of_decide_eq_true (by first | (with_reducible assumption) | assumption)
          obtain ⟨ad434, e434, hx434_0⟩ := Kd.at_int HR4.out x12_1 p434 q434
          cases e434
          replace hx434_0 := (HB.out.cell (World.block_lt_of_cell? w _ hx434_0)).trans hx434_0
          replace p434 := eq_true p434
          replace q434 := eq_true q434
          have p435 : 0 ≤ (x12_1 : Int) := of_decide_eq_true (by first | (with_reducible assumption) | assumption)
          have q435 : x12_1 < (l4.length : Int) := of_decide_eq_true (by first | (with_reducible assumption) | assumption)
          obtain ⟨ad435, e435, hx435_0⟩ := Kd.at_int HR4.out x12_1 p435 q435
          obtain rfl : ad434 = ad435 := (by injection e435)
          replace hx435_0 := (HB.out.cell (World.block_lt_of_cell? w _ hx435_0)).trans hx435_0
          replace p435 := eq_true p435
          replace q435 := eq_true q435
          have hcz27_0 : wr.cell? ⟨gb432, 0, none⟩ = some (.int .i64 a0_0) := (blk_cell BK432.out 0).trans rfl
          have hcz27_1 : wr.cell? ⟨gb432, 1, none⟩ = some (.slice A0_1 l0_1.length c0_1) := (blk_cell BK432.out 1).trans rfl
          have hfz27_0 := blk_frozen BK432.out 0
          have hfz27_1 := blk_frozen BK432.out 1
          go_wp2
          repeat (go_quiet (fail); try go_wp2)
          go_roundg k1
          case measure => have := HK1.out; omega
          case rel => exact ⟨(wrap64 (x12_1 + 1)), (by first | rfl | (simp; done) | (simp [*]; done)), H', ⟨by have := HK1.out; omega⟩, ⟨by (with_reducible repeat (first | refine blk_drewN ?_ _ | refine blk_drew ?_ | refine blk_alloc ?_ _)); exact BK432.out⟩, ⟨by repeat (first | (with_reducible first | exact HB.out | apply below_alloc | apply pw_below_drewN | apply below_drew1 | refine below_set ?_ GE432.out) | exact HB.out)⟩⟩
      ·rw [if_neg c16] at H
       exact absurd H (by simp)
     ·rw [if_neg c15] at H
      have c15b0 : decide (x12_1 < (l4.length : Int)) = false := decide_eq_false c15
      clear c15
      obtain rfl := Option.some.inj H
      go_wp2
      repeat (go_quiet (fail); try go_wp2)
      go_ret
      exact ⟨by first | rfl | (simp [errW_none, errW_some] <;> rfl) | (simp [*, errW_none, errW_some] <;> rfl), by repeat (first | (with_reducible first | exact HB.out | apply below_alloc | apply pw_below_drewN | apply below_drew1 | refine below_set ?_ GE432.out) | exact HB.out)⟩
 ·rw [if_neg c7] at H
  have c7b0 : (t433 == 0) = false := beq_eq_false_iff_ne.mpr c7
  have c7b1 : (t433 != 0) = true := bne_iff_ne.mpr c7
  obtain rfl := Option.some.inj H
  go_enter Try.func33, Try.ntmps33
  go_wp2_with (first | ((with_reducible refine gate_dst (N := 5) rfl ?_); (try (refine gate_guard (by rfl) ?_; dsimp only)); refine box_event ?hg (N := 5) ?hd (cs := #[.int .i64 a0_0, .slice A0_1 l0_1.length c0_1]) (t := 24) ?hr ?_; (case hd => rfl); (case hg => rfl); (case hr => first | (go_simp; done) | (go_simp; rfl)); intro gb432 hg w28 hbox hb; have n0_ := Aside0.mk (below_step (by repeat (first | (with_reducible first | exact HB.out | apply below_alloc | apply pw_below_drewN | apply below_drew1) | exact HB.out)) hb); have n1_ := Aside0.mk (hbox); have n2_ := Aside0.mk ((by rw [hg]; exact (below_size (by repeat (first | (with_reducible first | exact HB.out | apply below_alloc | apply pw_below_drewN | apply below_drew1) | exact HB.out))) : w.heap.size ≤ gb432)); have n3_ := Aside0.mk ((by rw [hg]; exact (below_size (by repeat (first | (with_reducible first | exact HB.out | apply below_alloc | apply pw_below_drewN | apply below_drew1) | exact HB.out))) : w.heap.size ≤ gb432)); clear HB; have HB := n0_; have BK432 := n1_; have GW432 := n2_; have GE432 := n3_; clear n0_ n1_ n2_ n3_; clear hb hbox hg; have hcz29_0 : w28.cell? ⟨gb432, 0, none⟩ = some (.int .i64 a0_0) := (blk_cell BK432.out 0).trans rfl; have hcz29_1 : w28.cell? ⟨gb432, 1, none⟩ = some (.slice A0_1 l0_1.length c0_1) := (blk_cell BK432.out 1).trans rfl; have hfz29_0 := blk_frozen BK432.out 0; have hfz29_1 := blk_frozen BK432.out 1) | (go_at_call 21; (with_reducible refine (codewrightref51_Ends.calls k a0_0 _ _ l0_1 a1 a2 t433 _ ?side1 ?side2 A6.out).mono ?_); (case side1 => repeat (first | exact (Kd.C_below HR0_1.out HB.out) | (with_reducible refine Kd.C_alloc ?_ _) | (with_reducible refine Kd.C_drewN ?_ _) | (with_reducible refine Kd.C_drew ?_))); (case side2 => exact HC0_1.out); rintro e w30 ⟨rfl, hb⟩; have n0_ := Aside0.mk (blk_below (g := gb432) (o := .cells #[.int .i64 a0_0, .slice A0_1 l0_1.length c0_1] 24 (0, 0)) (by (with_reducible repeat (first | refine blk_drewN ?_ _ | refine blk_drew ?_ | refine blk_alloc ?_ _)); exact BK432.out) hb); have n1_ := Aside0.mk (below_step (by repeat (first | (with_reducible first | exact HB.out | apply below_alloc | apply pw_below_drewN | apply below_drew1 | refine below_set ?_ GE432.out) | exact HB.out)) hb); clear BK432; clear HB; have BK432 := n0_; have HB := n1_; clear n0_ n1_; (try clear hb); (try clear hb2); (try clear hk); (try clear hi)))
  repeat (go_quiet (first | ((with_reducible refine gate_dst (N := 5) rfl ?_); (try (refine gate_guard (by rfl) ?_; dsimp only)); refine box_event ?hg (N := 5) ?hd (cs := #[.int .i64 a0_0, .slice A0_1 l0_1.length c0_1]) (t := 24) ?hr ?_; (case hd => rfl); (case hg => rfl); (case hr => first | (go_simp; done) | (go_simp; rfl)); intro gb432 hg w28 hbox hb; have n0_ := Aside0.mk (below_step (by repeat (first | (with_reducible first | exact HB.out | apply below_alloc | apply pw_below_drewN | apply below_drew1) | exact HB.out)) hb); have n1_ := Aside0.mk (hbox); have n2_ := Aside0.mk ((by rw [hg]; exact (below_size (by repeat (first | (with_reducible first | exact HB.out | apply below_alloc | apply pw_below_drewN | apply below_drew1) | exact HB.out))) : w.heap.size ≤ gb432)); have n3_ := Aside0.mk ((by rw [hg]; exact (below_size (by repeat (first | (with_reducible first | exact HB.out | apply below_alloc | apply pw_below_drewN | apply below_drew1) | exact HB.out))) : w.heap.size ≤ gb432)); clear HB; have HB := n0_; have BK432 := n1_; have GW432 := n2_; have GE432 := n3_; clear n0_ n1_ n2_ n3_; clear hb hbox hg; have hcz29_0 : w28.cell? ⟨gb432, 0, none⟩ = some (.int .i64 a0_0) := (blk_cell BK432.out 0).trans rfl; have hcz29_1 : w28.cell? ⟨gb432, 1, none⟩ = some (.slice A0_1 l0_1.length c0_1) := (blk_cell BK432.out 1).trans rfl; have hfz29_0 := blk_frozen BK432.out 0; have hfz29_1 := blk_frozen BK432.out 1) | (go_at_call 21; (with_reducible refine (codewrightref51_Ends.calls k a0_0 _ _ l0_1 a1 a2 t433 _ ?side1 ?side2 A6.out).mono ?_); (case side1 => repeat (first | exact (Kd.C_below HR0_1.out HB.out) | (with_reducible refine Kd.C_alloc ?_ _) | (with_reducible refine Kd.C_drewN ?_ _) | (with_reducible refine Kd.C_drew ?_))); (case side2 => exact HC0_1.out); rintro e w30 ⟨rfl, hb⟩; have n0_ := Aside0.mk (blk_below (g := gb432) (o := .cells #[.int .i64 a0_0, .slice A0_1 l0_1.length c0_1] 24 (0, 0)) (by (with_reducible repeat (first | refine blk_drewN ?_ _ | refine blk_drew ?_ | refine blk_alloc ?_ _)); exact BK432.out) hb); have n1_ := Aside0.mk (below_step (by repeat (first | (with_reducible first | exact HB.out | apply below_alloc | apply pw_below_drewN | apply below_drew1 | refine below_set ?_ GE432.out) | exact HB.out)) hb); clear BK432; clear HB; have BK432 := n0_; have HB := n1_; clear n0_ n1_; (try clear hb); (try clear hb2); (try clear hk); (try clear hi))); try go_wp2_with (first | ((with_reducible refine gate_dst (N := 5) rfl ?_); (try (refine gate_guard (by rfl) ?_; dsimp only)); refine box_event ?hg (N := 5) ?hd (cs := #[.int .i64 a0_0, .slice A0_1 l0_1.length c0_1]) (t := 24) ?hr ?_; (case hd => rfl); (case hg => rfl); (case hr => first | (go_simp; done) | (go_simp; rfl)); intro gb432 hg w28 hbox hb; have n0_ := Aside0.mk (below_step (by repeat (first | (with_reducible first | exact HB.out | apply below_alloc | apply pw_below_drewN | apply below_drew1) | exact HB.out)) hb); have n1_ := Aside0.mk (hbox); have n2_ := Aside0.mk ((by rw [hg]; exact (below_size (by repeat (first | (with_reducible first | exact HB.out | apply below_alloc | apply pw_below_drewN | apply below_drew1) | exact HB.out))) : w.heap.size ≤ gb432)); have n3_ := Aside0.mk ((by rw [hg]; exact (below_size (by repeat (first | (with_reducible first | exact HB.out | apply below_alloc | apply pw_below_drewN | apply below_drew1) | exact HB.out))) : w.heap.size ≤ gb432)); clear HB; have HB := n0_; have BK432 := n1_; have GW432 := n2_; have GE432 := n3_; clear n0_ n1_ n2_ n3_; clear hb hbox hg; have hcz29_0 : w28.cell? ⟨gb432, 0, none⟩ = some (.int .i64 a0_0) := (blk_cell BK432.out 0).trans rfl; have hcz29_1 : w28.cell? ⟨gb432, 1, none⟩ = some (.slice A0_1 l0_1.length c0_1) := (blk_cell BK432.out 1).trans rfl; have hfz29_0 := blk_frozen BK432.out 0; have hfz29_1 := blk_frozen BK432.out 1) | (go_at_call 21; (with_reducible refine (codewrightref51_Ends.calls k a0_0 _ _ l0_1 a1 a2 t433 _ ?side1 ?side2 A6.out).mono ?_); (case side1 => repeat (first | exact (Kd.C_below HR0_1.out HB.out) | (with_reducible refine Kd.C_alloc ?_ _) | (with_reducible refine Kd.C_drewN ?_ _) | (with_reducible refine Kd.C_drew ?_))); (case side2 => exact HC0_1.out); rintro e w30 ⟨rfl, hb⟩; have n0_ := Aside0.mk (blk_below (g := gb432) (o := .cells #[.int .i64 a0_0, .slice A0_1 l0_1.length c0_1] 24 (0, 0)) (by (with_reducible repeat (first | refine blk_drewN ?_ _ | refine blk_drew ?_ | refine blk_alloc ?_ _)); exact BK432.out) hb); have n1_ := Aside0.mk (below_step (by repeat (first | (with_reducible first | exact HB.out | apply below_alloc | apply pw_below_drewN | apply below_drew1 | refine below_set ?_ GE432.out) | exact HB.out)) hb); clear BK432; clear HB; have BK432 := n0_; have HB := n1_; clear n0_ n1_; (try clear hb); (try clear hb2); (try clear hk); (try clear hi))))
  go_ret
  exact ⟨by first | rfl | (simp [errW_none, errW_some] <;> rfl) | (simp [*, errW_none, errW_some] <;> rfl), by repeat (first | (with_reducible first | exact HB.out | apply below_alloc | apply pw_below_drewN | apply below_drew1 | refine below_set ?_ GE432.out) | exact HB.out)⟩

end Go.Proofs.Ytidomjhihfoabaa.PF
