-- thin
-- printed by a program out of Lean's own print of the program (the kit's print.py, one namespace for several laws)
import Derived.Test.YtidomjhihfoabaaPFx0
import Derived.Test.YtidomjhihfoabaaPFx15
namespace Go.Proofs.Ytidomjhihfoabaa.PF
open Go.RowKit Go.Proofs.YtidomjhihfoabaaW.PrintWords Go.Proofs.YtidomjhihfoabaaW.PrintLast Go.Proofs.YtidomjhihfoabaaW.PrintMore
attribute [local go_sem] max2_int min2_int max_two min_two max_three min_three max_four min_four   -- for this text's walks alone
set_option linter.unusedVariables false
set_option linter.unusedSimpArgs false

/-! ### codewrightref51_Ends: function 21 -/
def codewrightref51_Ends.j0 : Nat → Int → Int → Bool → Option (Int)
 | 0, _, _, _ => none
 | k + 1, x1, x2, x30 => if x30 = true then (some 6) else (if x1 = x2 then (some 10) else (some 0))
def codewrightref51_Ends.f (k : Nat) (a0_0 : Int) (l0_1 : List (S36)) (a1 : Int) (a2 : Int) : Option (Int) := (codewrightref51_Check.f k a0_0 l0_1).bind fun t183 => (if t183 = 0 then (if a1 < 0 then (codewrightref51_Ends.j0 k a1 a2 true) else (if a1 ≥ a0_0 then (codewrightref51_Ends.j0 k a1 a2 true) else (if a2 < 0 then (codewrightref51_Ends.j0 k a1 a2 true) else (codewrightref51_Ends.j0 k a1 a2 (decide (a2 ≥ a0_0)))))) else (some t183))
theorem codewrightref51_Ends.mono_l : ∀ k, (∀ y0 y1 y2, LeO (codewrightref51_Ends.j0 k y0 y1 y2) (codewrightref51_Ends.j0 (k + 1) y0 y1 y2))
 | 0 => fun _ _ _ r h => by simp [codewrightref51_Ends.j0] at h
 | k + 1 => by
  have ih0 := codewrightref51_Ends.mono_l k
  ·intro y0 y1 y2
   unfold codewrightref51_Ends.j0
   repeat' first
   | (with_reducible exact ih0 _ _ _)
   | (with_reducible exact codewrightref51_Check.mono _ _ _)
   | (with_reducible exact LeO.refl _)
   | (with_reducible exact LeO.none _)
   | (with_reducible refine LeO.ite ?_ ?_)
   | (with_reducible refine LeO.bind ?_ (fun _ => ?_))
   | exact ih0 _ _ _
   | exact codewrightref51_Check.mono _ _ _
   | exact LeO.none _
   | refine LeO.ite ?_ ?_
   | refine LeO.bind ?_ (fun _ => ?_)
theorem codewrightref51_Ends.mono : ∀ a0 a1 a2 a3 k, LeO (codewrightref51_Ends.f k a0 a1 a2 a3) (codewrightref51_Ends.f (k + 1) a0 a1 a2 a3) := by
 intro a0 a1 a2 a3 k
 have ih0 := codewrightref51_Ends.mono_l k
 unfold codewrightref51_Ends.f
 repeat' first
   | (with_reducible exact ih0 _ _ _)
   | (with_reducible exact codewrightref51_Check.mono _ _ _)
   | (with_reducible exact LeO.refl _)
   | (with_reducible exact LeO.none _)
   | (with_reducible refine LeO.ite ?_ ?_)
   | (with_reducible refine LeO.bind ?_ (fun _ => ?_))
   | exact ih0 _ _ _
   | exact codewrightref51_Check.mono _ _ _
   | exact LeO.none _
   | refine LeO.ite ?_ ?_
   | refine LeO.bind ?_ (fun _ => ?_)
set_option maxHeartbeats 8000000 in
set_option maxRecDepth 100000 in
theorem codewrightref51_Ends.calls (k : Nat) (a0_0 : Int) (A0_1 : Option Addr) (c0_1 : Nat) (l0_1 : List (S36)) (a1 : Int) (a2 : Int) (r : Int) (w : World) (hr0_1 : Kd.C k36 w A0_1 l0_1.length l0_1) (hc0_1 : l0_1.length ≤ c0_1) (h : codewrightref51_Ends.f k a0_0 l0_1 a1 a2 = some r) :
  Calls Try.prog 21 #[.agg #[.int .i64 a0_0, .slice A0_1 l0_1.length c0_1], .int .i64 a1, .int .i64 a2] w fun e w' => e = .returned (.int .i64 r) ∧ Below w.heap.size w w' := by
 have hu24 := Try.underlying24
 have HR0_1 := Aside0.mk hr0_1
 have HC0_1 := Aside0.mk hc0_1
 clear hr0_1 hc0_1
 have HB := Aside0.mk (Below.refl w.heap.size w)
 have H : ((codewrightref51_Check.f k a0_0 l0_1).bind fun t183 => (if t183 = 0 then (if a1 < 0 then (codewrightref51_Ends.j0 k a1 a2 true) else (if a1 ≥ a0_0 then (codewrightref51_Ends.j0 k a1 a2 true) else (if a2 < 0 then (codewrightref51_Ends.j0 k a1 a2 true) else (codewrightref51_Ends.j0 k a1 a2 (decide (a2 ≥ a0_0)))))) else (some t183))) = some r := h
 clear h
 replace H := Option.bind_eq_some_iff.mp H
 obtain ⟨t183, A40, H⟩ := H
 replace H : (if t183 = 0 then (if a1 < 0 then (codewrightref51_Ends.j0 k a1 a2 true) else (if a1 ≥ a0_0 then (codewrightref51_Ends.j0 k a1 a2 true) else (if a2 < 0 then (codewrightref51_Ends.j0 k a1 a2 true) else (codewrightref51_Ends.j0 k a1 a2 (decide (a2 ≥ a0_0)))))) else (some t183)) = some r := H
 have A4 := Aside0.mk A40
 clear A40
 by_cases c5 : t183 = 0
 ·rw [if_pos c5] at H
  have c5b0 : (t183 == 0) = true := beq_iff_eq.mpr c5
  have c5b1 : (t183 != 0) = false := bne_eq_false_iff_eq.mpr c5
  clear c5
  have HC6 := Aside0.mk H
  clear H
  go_enter Try.func21, Try.ntmps21
  go_upto_region 4 with (first | ((with_reducible refine gate_dst (N := 3) rfl ?_); refine box_event ?hg (N := 3) ?hd (cs := #[.int .i64 a0_0, .slice A0_1 l0_1.length c0_1]) (t := 24) ?hr ?_; (case hd => rfl); (case hg => rfl); (case hr => first | (go_simp; done) | (go_simp; rfl)); intro gb182 hg w7 hbox hb; have n0_ := Aside0.mk (below_step (by repeat (first | (with_reducible first | exact HB.out | apply below_alloc | apply pw_below_drewN | apply below_drew1) | exact HB.out)) hb); have n1_ := Aside0.mk (hbox); have n2_ := Aside0.mk ((by rw [hg]; exact (below_size (by repeat (first | (with_reducible first | exact HB.out | apply below_alloc | apply pw_below_drewN | apply below_drew1) | exact HB.out))) : w.heap.size ≤ gb182)); have n3_ := Aside0.mk ((by rw [hg]; exact (below_size (by repeat (first | (with_reducible first | exact HB.out | apply below_alloc | apply pw_below_drewN | apply below_drew1) | exact HB.out))) : w.heap.size ≤ gb182)); clear HB; have HB := n0_; have BK182 := n1_; have GW182 := n2_; have GE182 := n3_; clear n0_ n1_ n2_ n3_; clear hb hbox hg; have hcz8_0 : w7.cell? ⟨gb182, 0, none⟩ = some (.int .i64 a0_0) := (blk_cell BK182.out 0).trans rfl; have hcz8_1 : w7.cell? ⟨gb182, 1, none⟩ = some (.slice A0_1 l0_1.length c0_1) := (blk_cell BK182.out 1).trans rfl; have hfz8_0 := blk_frozen BK182.out 0; have hfz8_1 := blk_frozen BK182.out 1) | ((with_reducible refine gate_callee (f := 15) rfl ?_); refine goesL_ (some 9) rfl rfl Try.func15 (by kernel_rfl) rfl #[.agg #[.int .i64 a0_0, .slice A0_1 l0_1.length c0_1]] rfl (by (try simp only [List.map_toArray, List.map_cons, List.map_nil]); first | done | rfl | (simp only [List.length_drop, List.length_take]; rfl)) ?_; (with_reducible refine (codewrightref51_Check.calls k a0_0 _ _ l0_1 t183 _ ?side1 ?side2 A4.out).mono ?_); (case side1 => repeat (first | exact (Kd.C_below HR0_1.out HB.out) | (with_reducible refine Kd.C_alloc ?_ _) | (with_reducible refine Kd.C_drewN ?_ _) | (with_reducible refine Kd.C_drew ?_))); (case side2 => exact HC0_1.out); rintro e w9 ⟨rfl, hb⟩; refine ⟨_, rfl, ?_⟩; have n0_ := Aside0.mk (blk_below (g := gb182) (o := .cells #[.int .i64 a0_0, .slice A0_1 l0_1.length c0_1] 24 (0, 0)) (by (with_reducible repeat (first | refine blk_drewN ?_ _ | refine blk_drew ?_ | refine blk_alloc ?_ _)); exact BK182.out) hb); have n1_ := Aside0.mk (below_step (by repeat (first | (with_reducible first | exact HB.out | apply below_alloc | apply pw_below_drewN | apply below_drew1 | refine below_set ?_ GE182.out) | exact HB.out)) hb); clear BK182; clear HB; have BK182 := n0_; have HB := n1_; clear n0_ n1_; (try clear hb); (try clear hb2); (try clear hk); (try clear hi)))
  (try simp only [Act.put, List.setIfInBounds_toArray, List.set_cons_zero, List.set_cons_succ])
  go_cut [30] (fun v30 wc => ∃ (kq : Nat) (x30_5 : Bool), v30 = .bool x30_5 ∧ Aside0 (codewrightref51_Ends.j0 kq a1 a2 x30_5 = some r) ∧ Aside0 (kq ≤ k) ∧ Aside0 (wc.heap[gb182]? = some (.cells #[.int .i64 a0_0, (.slice A0_1 l0_1.length c0_1)] 24 (0, 0))) ∧ Aside0 (Below w.heap.size w wc))
  case first =>
   have H := HC6.out
   clear HC6
   by_cases c10 : a1 < 0
   ·rw [if_pos c10] at H
    have c10b0 : decide (a1 < 0) = true := decide_eq_true c10
    clear c10
    (first | rw [c10b0] | (simp only [i64_w, i32_w]; rw [c10b0]) | skip)
    have H' := Aside0.mk H
    clear H
    go_wp2
    go_meet
    case rel => exact ⟨_, (true), (by first | rfl | (simp; done) | (simp [*]; done)), H', ⟨by first | omega | exact Nat.le_refl _⟩, ⟨by (with_reducible repeat (first | refine blk_drewN ?_ _ | refine blk_drew ?_ | refine blk_alloc ?_ _)); exact BK182.out⟩, ⟨by repeat (first | (with_reducible first | exact HB.out | apply below_alloc | apply pw_below_drewN | apply below_drew1 | refine below_set ?_ GE182.out) | exact HB.out)⟩⟩
   ·rw [if_neg c10] at H
    have c10b0 : decide (a1 < 0) = false := decide_eq_false c10
    clear c10
    (first | rw [c10b0] | (simp only [i64_w, i32_w]; rw [c10b0]) | skip)
    by_cases c11 : a1 ≥ a0_0
    ·rw [if_pos c11] at H
     have c11b0 : decide (a0_0 ≤ a1) = true := decide_eq_true c11
     clear c11
     have H' := Aside0.mk H
     clear H
     have hcz12_0 : w9.cell? ⟨gb182, 0, none⟩ = some (.int .i64 a0_0) := (blk_cell BK182.out 0).trans rfl
     have hcz12_1 : w9.cell? ⟨gb182, 1, none⟩ = some (.slice A0_1 l0_1.length c0_1) := (blk_cell BK182.out 1).trans rfl
     have hfz12_0 := blk_frozen BK182.out 0
     have hfz12_1 := blk_frozen BK182.out 1
     go_wp2
     go_meet
     case rel => exact ⟨_, (true), (by first | rfl | (simp; done) | (simp [*]; done)), H', ⟨by first | omega | exact Nat.le_refl _⟩, ⟨by (with_reducible repeat (first | refine blk_drewN ?_ _ | refine blk_drew ?_ | refine blk_alloc ?_ _)); exact BK182.out⟩, ⟨by repeat (first | (with_reducible first | exact HB.out | apply below_alloc | apply pw_below_drewN | apply below_drew1 | refine below_set ?_ GE182.out) | exact HB.out)⟩⟩
    ·rw [if_neg c11] at H
     have c11b0 : decide (a0_0 ≤ a1) = false := decide_eq_false c11
     clear c11
     by_cases c13 : a2 < 0
     ·rw [if_pos c13] at H
      have c13b0 : decide (a2 < 0) = true := decide_eq_true c13
      clear c13
      have H' := Aside0.mk H
      clear H
      have hcz14_0 : w9.cell? ⟨gb182, 0, none⟩ = some (.int .i64 a0_0) := (blk_cell BK182.out 0).trans rfl
      have hcz14_1 : w9.cell? ⟨gb182, 1, none⟩ = some (.slice A0_1 l0_1.length c0_1) := (blk_cell BK182.out 1).trans rfl
      have hfz14_0 := blk_frozen BK182.out 0
      have hfz14_1 := blk_frozen BK182.out 1
      go_wp2
      go_meet
      case rel => exact ⟨_, (true), (by first | rfl | (simp; done) | (simp [*]; done)), H', ⟨by first | omega | exact Nat.le_refl _⟩, ⟨by (with_reducible repeat (first | refine blk_drewN ?_ _ | refine blk_drew ?_ | refine blk_alloc ?_ _)); exact BK182.out⟩, ⟨by repeat (first | (with_reducible first | exact HB.out | apply below_alloc | apply pw_below_drewN | apply below_drew1 | refine below_set ?_ GE182.out) | exact HB.out)⟩⟩
     ·rw [if_neg c13] at H
      have c13b0 : decide (a2 < 0) = false := decide_eq_false c13
      clear c13
      have H' := Aside0.mk H
      clear H
      have hcz15_0 : w9.cell? ⟨gb182, 0, none⟩ = some (.int .i64 a0_0) := (blk_cell BK182.out 0).trans rfl
      have hcz15_1 : w9.cell? ⟨gb182, 1, none⟩ = some (.slice A0_1 l0_1.length c0_1) := (blk_cell BK182.out 1).trans rfl
      have hfz15_0 := blk_frozen BK182.out 0
      have hfz15_1 := blk_frozen BK182.out 1
      go_wp2
      go_meet
      case rel => exact ⟨_, (decide (a2 ≥ a0_0)), (by first | rfl | (simp; done) | (simp [*]; done)), H', ⟨by first | omega | exact Nat.le_refl _⟩, ⟨by (with_reducible repeat (first | refine blk_drewN ?_ _ | refine blk_drew ?_ | refine blk_alloc ?_ _)); exact BK182.out⟩, ⟨by repeat (first | (with_reducible first | exact HB.out | apply below_alloc | apply pw_below_drewN | apply below_drew1 | refine below_set ?_ GE182.out) | exact HB.out)⟩⟩
  case rest =>
   clear HC6
   try clear c1
   try clear c2
   try clear p2
   try clear c5
   try clear c5b0
   try clear c5b1
   try clear c10
   try clear c10b0
   try clear c11
   try clear c11b0
   try clear c13
   try clear c13b0
   try clear c15
   try clear hcz12_0
   try clear hcz12_1
   try clear hcz14_0
   try clear hcz14_1
   try clear hcz15_0
   try clear hcz15_1
   try clear hcz8_0
   try clear hcz8_1
   try clear hfz12_0
   try clear hfz12_1
   try clear hfz14_0
   try clear hfz14_1
   try clear hfz15_0
   try clear hfz15_1
   try clear hfz8_0
   try clear hfz8_1
   obtain ⟨kq, x30_5, rfl, HA, HJ5, BK182, HB⟩ := hcut
   cases kq with
   | zero => exact absurd HA.out (by simp [codewrightref51_Ends.j0])
   | succ kj5 =>
    have H := HA.out
    clear HA
    simp only [codewrightref51_Ends.j0] at H
    by_cases c16 : x30_5 = true
    ·subst c16
     have H1 : (some 6) = some r := by rw [if_pos rfl] at H; exact H
     clear H
     have H := H1
     clear H1
     obtain rfl := Option.some.inj H
     go_wp2
     go_ret
     exact ⟨by first | rfl | (simp [errW_none, errW_some] <;> rfl) | (simp [*, errW_none, errW_some] <;> rfl), by repeat (first | (with_reducible first | exact HB.out | apply below_alloc | apply pw_below_drewN | apply below_drew1 | refine below_set ?_ GE182.out) | exact HB.out)⟩
    ·replace c16 := Bool.eq_false_iff.mpr c16
     subst c16
     have H1 : (if a1 = a2 then (some 10) else (some 0)) = some r := by rw [if_neg (show ¬ (false = true) by decide)] at H; exact H
     clear H
     have H := H1
     clear H1
     by_cases c17 : a1 = a2
     ·rw [if_pos c17] at H
      have c17b0 : (a1 == a2) = true := beq_iff_eq.mpr c17
      have c17b1 : (a1 != a2) = false := bne_eq_false_iff_eq.mpr c17
      clear c17
      obtain rfl := Option.some.inj H
      go_wp2
      go_ret
      exact ⟨by first | rfl | (simp [errW_none, errW_some] <;> rfl) | (simp [*, errW_none, errW_some] <;> rfl), by repeat (first | (with_reducible first | exact HB.out | apply below_alloc | apply pw_below_drewN | apply below_drew1 | refine below_set ?_ GE182.out) | exact HB.out)⟩
     ·rw [if_neg c17] at H
      have c17b0 : (a1 == a2) = false := beq_eq_false_iff_ne.mpr c17
      have c17b1 : (a1 != a2) = true := bne_iff_ne.mpr c17
      obtain rfl := Option.some.inj H
      go_wp2
      go_ret
      exact ⟨by first | rfl | (simp [errW_none, errW_some] <;> rfl) | (simp [*, errW_none, errW_some] <;> rfl), by repeat (first | (with_reducible first | exact HB.out | apply below_alloc | apply pw_below_drewN | apply below_drew1 | refine below_set ?_ GE182.out) | exact HB.out)⟩
 ·rw [if_neg c5] at H
  have c5b0 : (t183 == 0) = false := beq_eq_false_iff_ne.mpr c5
  have c5b1 : (t183 != 0) = true := bne_iff_ne.mpr c5
  obtain rfl := Option.some.inj H
  go_enter Try.func21, Try.ntmps21
  go_wp2_with (first | ((with_reducible refine gate_dst (N := 3) rfl ?_); refine box_event ?hg (N := 3) ?hd (cs := #[.int .i64 a0_0, .slice A0_1 l0_1.length c0_1]) (t := 24) ?hr ?_; (case hd => rfl); (case hg => rfl); (case hr => first | (go_simp; done) | (go_simp; rfl)); intro gb182 hg w18 hbox hb; have n0_ := Aside0.mk (below_step (by repeat (first | (with_reducible first | exact HB.out | apply below_alloc | apply pw_below_drewN | apply below_drew1) | exact HB.out)) hb); have n1_ := Aside0.mk (hbox); have n2_ := Aside0.mk ((by rw [hg]; exact (below_size (by repeat (first | (with_reducible first | exact HB.out | apply below_alloc | apply pw_below_drewN | apply below_drew1) | exact HB.out))) : w.heap.size ≤ gb182)); have n3_ := Aside0.mk ((by rw [hg]; exact (below_size (by repeat (first | (with_reducible first | exact HB.out | apply below_alloc | apply pw_below_drewN | apply below_drew1) | exact HB.out))) : w.heap.size ≤ gb182)); clear HB; have HB := n0_; have BK182 := n1_; have GW182 := n2_; have GE182 := n3_; clear n0_ n1_ n2_ n3_; clear hb hbox hg; have hcz19_0 : w18.cell? ⟨gb182, 0, none⟩ = some (.int .i64 a0_0) := (blk_cell BK182.out 0).trans rfl; have hcz19_1 : w18.cell? ⟨gb182, 1, none⟩ = some (.slice A0_1 l0_1.length c0_1) := (blk_cell BK182.out 1).trans rfl; have hfz19_0 := blk_frozen BK182.out 0; have hfz19_1 := blk_frozen BK182.out 1) | ((with_reducible refine gate_callee (f := 15) rfl ?_); refine goesL_ (some 9) rfl rfl Try.func15 (by kernel_rfl) rfl #[.agg #[.int .i64 a0_0, .slice A0_1 l0_1.length c0_1]] rfl (by (try simp only [List.map_toArray, List.map_cons, List.map_nil]); first | done | rfl | (simp only [List.length_drop, List.length_take]; rfl)) ?_; (with_reducible refine (codewrightref51_Check.calls k a0_0 _ _ l0_1 t183 _ ?side1 ?side2 A4.out).mono ?_); (case side1 => repeat (first | exact (Kd.C_below HR0_1.out HB.out) | (with_reducible refine Kd.C_alloc ?_ _) | (with_reducible refine Kd.C_drewN ?_ _) | (with_reducible refine Kd.C_drew ?_))); (case side2 => exact HC0_1.out); rintro e w20 ⟨rfl, hb⟩; refine ⟨_, rfl, ?_⟩; have n0_ := Aside0.mk (blk_below (g := gb182) (o := .cells #[.int .i64 a0_0, .slice A0_1 l0_1.length c0_1] 24 (0, 0)) (by (with_reducible repeat (first | refine blk_drewN ?_ _ | refine blk_drew ?_ | refine blk_alloc ?_ _)); exact BK182.out) hb); have n1_ := Aside0.mk (below_step (by repeat (first | (with_reducible first | exact HB.out | apply below_alloc | apply pw_below_drewN | apply below_drew1 | refine below_set ?_ GE182.out) | exact HB.out)) hb); clear BK182; clear HB; have BK182 := n0_; have HB := n1_; clear n0_ n1_; (try clear hb); (try clear hb2); (try clear hk); (try clear hi)))
  go_ret
  exact ⟨by first | rfl | (simp [errW_none, errW_some] <;> rfl) | (simp [*, errW_none, errW_some] <;> rfl), by repeat (first | (with_reducible first | exact HB.out | apply below_alloc | apply pw_below_drewN | apply below_drew1 | refine below_set ?_ GE182.out) | exact HB.out)⟩

end Go.Proofs.Ytidomjhihfoabaa.PF
