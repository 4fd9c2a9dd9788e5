-- thin
-- printed by a program out of Lean's own print of the program (the kit's print.py, one namespace for several laws)
import Derived.Test.YtidomjhihfoabaaPFx0
import Derived.Test.YtidomjhihfoabaaPFx17
import Derived.Test.YtidomjhihfoabaaPFx20
import Derived.Test.YtidomjhihfoabaaPFx21
import Derived.Test.YtidomjhihfoabaaPFx22
import Derived.Test.YtidomjhihfoabaaPFx23
namespace Go.Proofs.Ytidomjhihfoabaa.PF
open Go.RowKit Go.Proofs.YtidomjhihfoabaaW.PrintWords Go.Proofs.YtidomjhihfoabaaW.PrintLast Go.Proofs.YtidomjhihfoabaaW.PrintMore
attribute [local go_sem] max2_int min2_int max_two min_two max_three min_three max_four min_four   -- for this text's walks alone
set_option linter.unusedVariables false
set_option linter.unusedSimpArgs false

/-! ### codewrightref51_Accept: function 25 -/
def codewrightref51_Accept.j0 : Nat → Int → Bool → Int → List (S36) → Int → List Int → List Bool → Option (Int)
 | 0, _, _, _, _, _, _, _ => none
 | k + 1, x1, x36, x234000, x234001, x235000, x235001, x235002 => if x36 = true then (some 13) else ((codewrightref51_Value.f k x234000 x234001 x235001 x1).bind fun bt238 => ((codewrightref51_Cut.f k x234000 x234001 x235002).bind fun bt240 => (if bt238.1 = x235000 then (if bt240.1 = x235000 then (some 0) else (some 13)) else (some 13))))
def codewrightref51_Accept.f (k : Nat) (a0_0 : Int) (l0_1 : List (S36)) (a1 : Int) (a2 : Int) (a3_0 : Int) (l3_1 : List Int) (l3_2 : List Bool) : Option (Int) := (codewrightref51_Ends.f k a0_0 l0_1 a1 a2).bind fun t235 => (if t235 = 0 then ((codewrightref51_IsFlow.f k a0_0 l0_1 a1 a2 l3_1).bind fun t236 => (if t236 = true then ((codewrightref51_IsCut.f a0_0 l0_1 a1 a2 l3_2).bind fun t237 => (codewrightref51_Accept.j0 k a1 (!t237) a0_0 l0_1 a3_0 l3_1 l3_2)) else (codewrightref51_Accept.j0 k a1 true a0_0 l0_1 a3_0 l3_1 l3_2))) else (some t235))
theorem codewrightref51_Accept.mono_l : ∀ k, (∀ y0 y1 y2 y3 y4 y5 y6, LeO (codewrightref51_Accept.j0 k y0 y1 y2 y3 y4 y5 y6) (codewrightref51_Accept.j0 (k + 1) y0 y1 y2 y3 y4 y5 y6))
 | 0 => fun _ _ _ _ _ _ _ r h => by simp [codewrightref51_Accept.j0] at h
 | k + 1 => by
  have ih0 := codewrightref51_Accept.mono_l k
  ·intro y0 y1 y2 y3 y4 y5 y6
   unfold codewrightref51_Accept.j0
   repeat' first
   | (with_reducible exact ih0 _ _ _ _ _ _ _)
   | (with_reducible exact codewrightref51_Cut.mono _ _ _ _)
   | (with_reducible exact codewrightref51_Ends.mono _ _ _ _ _)
   | (with_reducible exact codewrightref51_IsFlow.mono _ _ _ _ _ _)
   | (with_reducible exact codewrightref51_Value.mono _ _ _ _ _)
   | (with_reducible exact LeO.refl _)
   | (with_reducible exact LeO.none _)
   | (with_reducible refine LeO.ite ?_ ?_)
   | (with_reducible refine LeO.bind ?_ (fun _ => ?_))
   | exact ih0 _ _ _ _ _ _ _
   | exact codewrightref51_Cut.mono _ _ _ _
   | exact codewrightref51_Ends.mono _ _ _ _ _
   | exact codewrightref51_IsFlow.mono _ _ _ _ _ _
   | exact codewrightref51_Value.mono _ _ _ _ _
   | exact LeO.none _
   | refine LeO.ite ?_ ?_
   | refine LeO.bind ?_ (fun _ => ?_)
theorem codewrightref51_Accept.mono : ∀ a0 a1 a2 a3 a4 a5 a6 k, LeO (codewrightref51_Accept.f k a0 a1 a2 a3 a4 a5 a6) (codewrightref51_Accept.f (k + 1) a0 a1 a2 a3 a4 a5 a6) := by
 intro a0 a1 a2 a3 a4 a5 a6 k
 have ih0 := codewrightref51_Accept.mono_l k
 unfold codewrightref51_Accept.f
 repeat' first
   | (with_reducible exact ih0 _ _ _ _ _ _ _)
   | (with_reducible exact codewrightref51_Cut.mono _ _ _ _)
   | (with_reducible exact codewrightref51_Ends.mono _ _ _ _ _)
   | (with_reducible exact codewrightref51_IsFlow.mono _ _ _ _ _ _)
   | (with_reducible exact codewrightref51_Value.mono _ _ _ _ _)
   | (with_reducible exact LeO.refl _)
   | (with_reducible exact LeO.none _)
   | (with_reducible refine LeO.ite ?_ ?_)
   | (with_reducible refine LeO.bind ?_ (fun _ => ?_))
   | exact ih0 _ _ _ _ _ _ _
   | exact codewrightref51_Cut.mono _ _ _ _
   | exact codewrightref51_Ends.mono _ _ _ _ _
   | exact codewrightref51_IsFlow.mono _ _ _ _ _ _
   | exact codewrightref51_Value.mono _ _ _ _ _
   | exact LeO.none _
   | refine LeO.ite ?_ ?_
   | refine LeO.bind ?_ (fun _ => ?_)
set_option maxHeartbeats 8000000 in
set_option maxRecDepth 100000 in
theorem codewrightref51_Accept.calls (k : Nat) (a0_0 : Int) (A0_1 : Option Addr) (c0_1 : Nat) (l0_1 : List (S36)) (a1 : Int) (a2 : Int) (a3_0 : Int) (A3_1 : Option Addr) (c3_1 : Nat) (l3_1 : List Int) (A3_2 : Option Addr) (c3_2 : Nat) (l3_2 : List Bool) (r : Int) (w : World) (hr0_1 : Kd.C k36 w A0_1 l0_1.length l0_1) (hc0_1 : l0_1.length ≤ c0_1) (hr3_1 : Kd.C (Kd.int .i64) w A3_1 l3_1.length l3_1) (hc3_1 : l3_1.length ≤ c3_1) (hr3_2 : Kd.C Kd.bool w A3_2 l3_2.length l3_2) (hc3_2 : l3_2.length ≤ c3_2) (h : codewrightref51_Accept.f k a0_0 l0_1 a1 a2 a3_0 l3_1 l3_2 = some r) :
  Calls Try.prog 25 #[.agg #[.int .i64 a0_0, .slice A0_1 l0_1.length c0_1], .int .i64 a1, .int .i64 a2, .agg #[.int .i64 a3_0, .slice A3_1 l3_1.length c3_1, .slice A3_2 l3_2.length c3_2]] w fun e w' => e = .returned (.int .i64 r) ∧ Below w.heap.size w w' := by
 have hu24 := Try.underlying24
 have hu39 := Try.underlying39
 have HR0_1 := Aside0.mk hr0_1
 have HC0_1 := Aside0.mk hc0_1
 clear hr0_1 hc0_1
 have HR3_1 := Aside0.mk hr3_1
 have HC3_1 := Aside0.mk hc3_1
 clear hr3_1 hc3_1
 have HR3_2 := Aside0.mk hr3_2
 have HC3_2 := Aside0.mk hc3_2
 clear hr3_2 hc3_2
 have HB := Aside0.mk (Below.refl w.heap.size w)
 have H : ((codewrightref51_Ends.f k a0_0 l0_1 a1 a2).bind fun t235 => (if t235 = 0 then ((codewrightref51_IsFlow.f k a0_0 l0_1 a1 a2 l3_1).bind fun t236 => (if t236 = true then ((codewrightref51_IsCut.f a0_0 l0_1 a1 a2 l3_2).bind fun t237 => (codewrightref51_Accept.j0 k a1 (!t237) a0_0 l0_1 a3_0 l3_1 l3_2)) else (codewrightref51_Accept.j0 k a1 true a0_0 l0_1 a3_0 l3_1 l3_2))) else (some t235))) = some r := h
 clear h
 replace H := Option.bind_eq_some_iff.mp H
 obtain ⟨t235, A50, H⟩ := H
 replace H : (if t235 = 0 then ((codewrightref51_IsFlow.f k a0_0 l0_1 a1 a2 l3_1).bind fun t236 => (if t236 = true then ((codewrightref51_IsCut.f a0_0 l0_1 a1 a2 l3_2).bind fun t237 => (codewrightref51_Accept.j0 k a1 (!t237) a0_0 l0_1 a3_0 l3_1 l3_2)) else (codewrightref51_Accept.j0 k a1 true a0_0 l0_1 a3_0 l3_1 l3_2))) else (some t235)) = some r := H
 have A5 := Aside0.mk A50
 clear A50
 by_cases c6 : t235 = 0
 ·rw [if_pos c6] at H
  have c6b0 : (t235 == 0) = true := beq_iff_eq.mpr c6
  have c6b1 : (t235 != 0) = false := bne_eq_false_iff_eq.mpr c6
  clear c6
  have HC7 := Aside0.mk H
  clear H
  go_enter Try.func25, Try.ntmps25
  go_upto_region 4 with (first | ((with_reducible refine gate_dst (N := 4) rfl ?_); refine box_event ?hg (N := 4) ?hd (cs := #[.int .i64 a0_0, .slice A0_1 l0_1.length c0_1]) (t := 24) ?hr ?_; (case hd => rfl); (case hg => rfl); (case hr => first | (go_simp; done) | (go_simp; rfl)); intro gb233 hg w8 hbox hb; have n0_ := Aside0.mk (below_step (by repeat (first | (with_reducible first | exact HB.out | apply below_alloc | apply pw_below_drewN | apply below_drew1) | exact HB.out)) hb); have n1_ := Aside0.mk (hbox); have n2_ := Aside0.mk ((by rw [hg]; exact (below_size (by repeat (first | (with_reducible first | exact HB.out | apply below_alloc | apply pw_below_drewN | apply below_drew1) | exact HB.out))) : w.heap.size ≤ gb233)); have n3_ := Aside0.mk ((by rw [hg]; exact (below_size (by repeat (first | (with_reducible first | exact HB.out | apply below_alloc | apply pw_below_drewN | apply below_drew1) | exact HB.out))) : w.heap.size ≤ gb233)); clear HB; have HB := n0_; have BK233 := n1_; have GW233 := n2_; have GE233 := n3_; clear n0_ n1_ n2_ n3_; clear hb hbox hg) | ((with_reducible refine gate_dst (N := 7) rfl ?_); refine box_event ?hg (N := 7) ?hd (cs := #[.int .i64 a3_0, .slice A3_1 l3_1.length c3_1, .slice A3_2 l3_2.length c3_2]) (t := 39) ?hr ?_; (case hd => rfl); (case hg => rfl); (case hr => first | (go_simp; done) | (go_simp; rfl)); intro gb234 hg w9 hbox hb; have n0_ := Aside0.mk (blk_below (g := gb233) (o := .cells #[.int .i64 a0_0, .slice A0_1 l0_1.length c0_1] 24 (0, 0)) (by (with_reducible repeat (first | refine blk_drewN ?_ _ | refine blk_drew ?_ | refine blk_alloc ?_ _)); exact BK233.out) hb); have n1_ := Aside0.mk (below_step (by repeat (first | (with_reducible first | exact HB.out | apply below_alloc | apply pw_below_drewN | apply below_drew1 | refine below_set ?_ GE233.out) | exact HB.out)) hb); have n2_ := Aside0.mk (hbox); have n3_ := Aside0.mk ((by rw [hg]; exact (below_size (by repeat (first | (with_reducible first | exact HB.out | apply below_alloc | apply pw_below_drewN | apply below_drew1 | refine below_set ?_ GE233.out) | exact HB.out))) : w.heap.size ≤ gb234)); have n4_ := Aside0.mk ((by rw [hg]; exact (below_size (by repeat (first | (with_reducible first | exact HB.out | apply below_alloc | apply pw_below_drewN | apply below_drew1 | refine below_set ?_ GE233.out) | exact HB.out))) : w.heap.size ≤ gb234)); have n5_ := Aside0.mk ((by rw [hg]; exact Nat.ne_of_lt (blk_lt (g := gb233) (o := .cells #[.int .i64 a0_0, .slice A0_1 l0_1.length c0_1] 24 (0, 0)) (by (with_reducible repeat (first | refine blk_drewN ?_ _ | refine blk_drew ?_ | refine blk_alloc ?_ _)); exact BK233.out)) : gb233 ≠ gb234)); have n6_ := Aside0.mk ((by rw [hg]; exact Nat.ne_of_gt (blk_lt (g := gb233) (o := .cells #[.int .i64 a0_0, .slice A0_1 l0_1.length c0_1] 24 (0, 0)) (by (with_reducible repeat (first | refine blk_drewN ?_ _ | refine blk_drew ?_ | refine blk_alloc ?_ _)); exact BK233.out)) : gb234 ≠ gb233)); clear BK233; clear HB; have BK233 := n0_; have HB := n1_; have BK234 := n2_; have GW234 := n3_; have GE234 := n4_; have NB233_234 := n5_; have NB234_233 := n6_; clear n0_ n1_ n2_ n3_ n4_ n5_ n6_; clear hb hbox hg; have hnb10 := NB233_234.out; have hnc10 := NB234_233.out; have hcz11_0 : w9.cell? ⟨gb233, 0, none⟩ = some (.int .i64 a0_0) := (blk_cell BK233.out 0).trans rfl; have hcz11_1 : w9.cell? ⟨gb233, 1, none⟩ = some (.slice A0_1 l0_1.length c0_1) := (blk_cell BK233.out 1).trans rfl; have hfz11_0 := blk_frozen BK233.out 0; have hfz11_1 := blk_frozen BK233.out 1) | ((with_reducible refine gate_callee (f := 21) rfl ?_); refine goesL_ (some 17) rfl rfl Try.func21 (by kernel_rfl) rfl #[.agg #[.int .i64 a0_0, .slice A0_1 l0_1.length c0_1], .int .i64 a1, .int .i64 a2] rfl (by (try simp only [List.map_toArray, List.map_cons, List.map_nil]); first | done | rfl | (simp only [List.length_drop, List.length_take]; rfl)) ?_; (with_reducible refine (codewrightref51_Ends.calls k a0_0 _ _ l0_1 a1 a2 t235 _ ?side1 ?side2 A5.out).mono ?_); (case side1 => repeat (first | exact (Kd.C_below HR0_1.out HB.out) | (with_reducible refine Kd.C_alloc ?_ _) | (with_reducible refine Kd.C_drewN ?_ _) | (with_reducible refine Kd.C_drew ?_))); (case side2 => exact HC0_1.out); rintro e w12 ⟨rfl, hb⟩; refine ⟨_, rfl, ?_⟩; have n0_ := Aside0.mk (blk_below (g := gb233) (o := .cells #[.int .i64 a0_0, .slice A0_1 l0_1.length c0_1] 24 (0, 0)) (by (with_reducible repeat (first | refine blk_drewN ?_ _ | refine blk_drew ?_ | refine blk_alloc ?_ _)); exact BK233.out) hb); have n1_ := Aside0.mk (blk_below (g := gb234) (o := .cells #[.int .i64 a3_0, .slice A3_1 l3_1.length c3_1, .slice A3_2 l3_2.length c3_2] 39 (0, 0)) (by (with_reducible repeat (first | refine blk_drewN ?_ _ | refine blk_drew ?_ | refine blk_alloc ?_ _)); exact BK234.out) hb); have n2_ := Aside0.mk (below_step (by repeat (first | (with_reducible first | exact HB.out | apply below_alloc | apply pw_below_drewN | apply below_drew1 | refine below_set ?_ GE233.out | refine below_set ?_ GE234.out) | exact HB.out)) hb); clear BK233; clear BK234; clear HB; have BK233 := n0_; have BK234 := n1_; have HB := n2_; clear n0_ n1_ n2_; (try clear hb); (try clear hb2); (try clear hk); (try clear hi)))
  (try simp only [Act.put, List.setIfInBounds_toArray, List.set_cons_zero, List.set_cons_succ])
  go_cut [36] (fun v36 wc => ∃ (kq : Nat) (x36_6 : Bool), v36 = .bool x36_6 ∧ Aside0 (codewrightref51_Accept.j0 kq a1 x36_6 a0_0 l0_1 a3_0 l3_1 l3_2 = some r) ∧ Aside0 (kq ≤ k) ∧ Aside0 (wc.heap[gb233]? = some (.cells #[.int .i64 a0_0, (.slice A0_1 l0_1.length c0_1)] 24 (0, 0))) ∧ Aside0 (wc.heap[gb234]? = some (.cells #[.int .i64 a3_0, (.slice A3_1 l3_1.length c3_1), (.slice A3_2 l3_2.length c3_2)] 39 (0, 0))) ∧ Aside0 (Below w.heap.size w wc))
  case first =>
   have H := HC7.out
   clear HC7
   replace H := Option.bind_eq_some_iff.mp H
   obtain ⟨t236, A130, H⟩ := H
   replace H : (if t236 = true then ((codewrightref51_IsCut.f a0_0 l0_1 a1 a2 l3_2).bind fun t237 => (codewrightref51_Accept.j0 k a1 (!t237) a0_0 l0_1 a3_0 l3_1 l3_2)) else (codewrightref51_Accept.j0 k a1 true a0_0 l0_1 a3_0 l3_1 l3_2)) = some r := H
   have A13 := Aside0.mk A130
   clear A130
   by_cases c14 : t236 = true
   ·subst c14
    have H1 : ((codewrightref51_IsCut.f a0_0 l0_1 a1 a2 l3_2).bind fun t237 => (codewrightref51_Accept.j0 k a1 (!t237) a0_0 l0_1 a3_0 l3_1 l3_2)) = some r := by rw [if_pos rfl] at H; exact H
    clear H
    have H := H1
    clear H1
    replace H := Option.bind_eq_some_iff.mp H
    obtain ⟨t237, A150, H⟩ := H
    replace H : (codewrightref51_Accept.j0 k a1 (!t237) a0_0 l0_1 a3_0 l3_1 l3_2) = some r := H
    have A15 := Aside0.mk A150
    clear A150
    have H' := Aside0.mk H
    clear H
    have hnb16 := NB233_234.out
    have hnc16 := NB234_233.out
    have hcz17_0 : w12.cell? ⟨gb233, 0, none⟩ = some (.int .i64 a0_0) := (blk_cell BK233.out 0).trans rfl
    have hcz17_1 : w12.cell? ⟨gb233, 1, none⟩ = some (.slice A0_1 l0_1.length c0_1) := (blk_cell BK233.out 1).trans rfl
    have hfz17_0 := blk_frozen BK233.out 0
    have hfz17_1 := blk_frozen BK233.out 1
    have hcz18_0 : w12.cell? ⟨gb234, 0, none⟩ = some (.int .i64 a3_0) := (blk_cell BK234.out 0).trans rfl
    have hcz18_1 : w12.cell? ⟨gb234, 1, none⟩ = some (.slice A3_1 l3_1.length c3_1) := (blk_cell BK234.out 1).trans rfl
    have hcz18_2 : w12.cell? ⟨gb234, 2, none⟩ = some (.slice A3_2 l3_2.length c3_2) := (blk_cell BK234.out 2).trans rfl
    have hfz18_0 := blk_frozen BK234.out 0
    have hfz18_1 := blk_frozen BK234.out 1
    have hfz18_2 := blk_frozen BK234.out 2
    go_wp2_with (first | ((with_reducible refine gate_callee (f := 22) rfl ?_); refine goesL_ (some 26) rfl rfl Try.func22 (by kernel_rfl) rfl #[.agg #[.int .i64 a0_0, .slice A0_1 l0_1.length c0_1], .int .i64 a1, .int .i64 a2, .slice A3_1 l3_1.length c3_1] rfl (by (try simp only [List.map_toArray, List.map_cons, List.map_nil]); first | done | rfl | (simp only [List.length_drop, List.length_take]; rfl)) ?_; (with_reducible refine (codewrightref51_IsFlow.calls k a0_0 _ _ l0_1 a1 a2 _ _ l3_1 true _ ?side1 ?side2 ?side3 ?side4 A13.out).mono ?_); (case side1 => repeat (first | exact (Kd.C_below HR0_1.out HB.out) | (with_reducible refine Kd.C_alloc ?_ _) | (with_reducible refine Kd.C_drewN ?_ _) | (with_reducible refine Kd.C_drew ?_))); (case side2 => exact HC0_1.out); (case side3 => repeat (first | exact (Kd.C_below HR3_1.out HB.out) | (with_reducible refine Kd.C_alloc ?_ _) | (with_reducible refine Kd.C_drewN ?_ _) | (with_reducible refine Kd.C_drew ?_))); (case side4 => exact HC3_1.out); rintro e w19 ⟨rfl, hb⟩; refine ⟨_, rfl, ?_⟩; have n0_ := Aside0.mk (blk_below (g := gb233) (o := .cells #[.int .i64 a0_0, .slice A0_1 l0_1.length c0_1] 24 (0, 0)) (by (with_reducible repeat (first | refine blk_drewN ?_ _ | refine blk_drew ?_ | refine blk_alloc ?_ _)); exact BK233.out) hb); have n1_ := Aside0.mk (blk_below (g := gb234) (o := .cells #[.int .i64 a3_0, .slice A3_1 l3_1.length c3_1, .slice A3_2 l3_2.length c3_2] 39 (0, 0)) (by (with_reducible repeat (first | refine blk_drewN ?_ _ | refine blk_drew ?_ | refine blk_alloc ?_ _)); exact BK234.out) hb); have n2_ := Aside0.mk (below_step (by repeat (first | (with_reducible first | exact HB.out | apply below_alloc | apply pw_below_drewN | apply below_drew1 | refine below_set ?_ GE233.out | refine below_set ?_ GE234.out) | exact HB.out)) hb); clear BK233; clear BK234; clear HB; have BK233 := n0_; have BK234 := n1_; have HB := n2_; clear n0_ n1_ n2_; (try clear hb); (try clear hb2); (try clear hk); (try clear hi); have hcz20_0 : w19.cell? ⟨gb233, 0, none⟩ = some (.int .i64 a0_0) := (blk_cell BK233.out 0).trans rfl; have hcz20_1 : w19.cell? ⟨gb233, 1, none⟩ = some (.slice A0_1 l0_1.length c0_1) := (blk_cell BK233.out 1).trans rfl; have hfz20_0 := blk_frozen BK233.out 0; have hfz20_1 := blk_frozen BK233.out 1; have hcz21_0 : w19.cell? ⟨gb234, 0, none⟩ = some (.int .i64 a3_0) := (blk_cell BK234.out 0).trans rfl; have hcz21_1 : w19.cell? ⟨gb234, 1, none⟩ = some (.slice A3_1 l3_1.length c3_1) := (blk_cell BK234.out 1).trans rfl; have hcz21_2 : w19.cell? ⟨gb234, 2, none⟩ = some (.slice A3_2 l3_2.length c3_2) := (blk_cell BK234.out 2).trans rfl; have hfz21_0 := blk_frozen BK234.out 0; have hfz21_1 := blk_frozen BK234.out 1; have hfz21_2 := blk_frozen BK234.out 2) | (go_at_call 23; (with_reducible refine (codewrightref51_IsCut.calls a0_0 _ _ l0_1 a1 a2 _ _ l3_2 t237 _ ?side1 ?side2 ?side3 ?side4 A15.out).mono ?_); (case side1 => repeat (first | exact (Kd.C_below HR0_1.out HB.out) | (with_reducible refine Kd.C_alloc ?_ _) | (with_reducible refine Kd.C_drewN ?_ _) | (with_reducible refine Kd.C_drew ?_))); (case side2 => exact HC0_1.out); (case side3 => repeat (first | exact (Kd.C_below HR3_2.out HB.out) | (with_reducible refine Kd.C_alloc ?_ _) | (with_reducible refine Kd.C_drewN ?_ _) | (with_reducible refine Kd.C_drew ?_))); (case side4 => exact HC3_2.out); rintro e w22 ⟨rfl, hb⟩; have n0_ := Aside0.mk (blk_below (g := gb233) (o := .cells #[.int .i64 a0_0, .slice A0_1 l0_1.length c0_1] 24 (0, 0)) (by (with_reducible repeat (first | refine blk_drewN ?_ _ | refine blk_drew ?_ | refine blk_alloc ?_ _)); exact BK233.out) hb); have n1_ := Aside0.mk (blk_below (g := gb234) (o := .cells #[.int .i64 a3_0, .slice A3_1 l3_1.length c3_1, .slice A3_2 l3_2.length c3_2] 39 (0, 0)) (by (with_reducible repeat (first | refine blk_drewN ?_ _ | refine blk_drew ?_ | refine blk_alloc ?_ _)); exact BK234.out) hb); have n2_ := Aside0.mk (below_step (by repeat (first | (with_reducible first | exact HB.out | apply below_alloc | apply pw_below_drewN | apply below_drew1 | refine below_set ?_ GE233.out | refine below_set ?_ GE234.out) | exact HB.out)) hb); clear BK233; clear BK234; clear HB; have BK233 := n0_; have BK234 := n1_; have HB := n2_; clear n0_ n1_ n2_; (try clear hb); (try clear hb2); (try clear hk); (try clear hi)))
    go_meet
    case rel => exact ⟨_, (!t237), (by first | rfl | (simp; done) | (simp [*]; done)), H', ⟨by first | omega | exact Nat.le_refl _⟩, ⟨by (with_reducible repeat (first | refine blk_drewN ?_ _ | refine blk_drew ?_ | refine blk_alloc ?_ _)); exact BK233.out⟩, ⟨by (with_reducible repeat (first | refine blk_drewN ?_ _ | refine blk_drew ?_ | refine blk_alloc ?_ _)); exact BK234.out⟩, ⟨by repeat (first | (with_reducible first | exact HB.out | apply below_alloc | apply pw_below_drewN | apply below_drew1 | refine below_set ?_ GE233.out | refine below_set ?_ GE234.out) | exact HB.out)⟩⟩
   ·replace c14 := Bool.eq_false_iff.mpr c14
    subst c14
    have H1 : (codewrightref51_Accept.j0 k a1 true a0_0 l0_1 a3_0 l3_1 l3_2) = some r := by rw [if_neg (show ¬ (false = true) by decide)] at H; exact H
    clear H
    have H := H1
    clear H1
    have H' := Aside0.mk H
    clear H
    have hnb23 := NB233_234.out
    have hnc23 := NB234_233.out
    have hcz24_0 : w12.cell? ⟨gb233, 0, none⟩ = some (.int .i64 a0_0) := (blk_cell BK233.out 0).trans rfl
    have hcz24_1 : w12.cell? ⟨gb233, 1, none⟩ = some (.slice A0_1 l0_1.length c0_1) := (blk_cell BK233.out 1).trans rfl
    have hfz24_0 := blk_frozen BK233.out 0
    have hfz24_1 := blk_frozen BK233.out 1
    have hcz25_0 : w12.cell? ⟨gb234, 0, none⟩ = some (.int .i64 a3_0) := (blk_cell BK234.out 0).trans rfl
    have hcz25_1 : w12.cell? ⟨gb234, 1, none⟩ = some (.slice A3_1 l3_1.length c3_1) := (blk_cell BK234.out 1).trans rfl
    have hcz25_2 : w12.cell? ⟨gb234, 2, none⟩ = some (.slice A3_2 l3_2.length c3_2) := (blk_cell BK234.out 2).trans rfl
    have hfz25_0 := blk_frozen BK234.out 0
    have hfz25_1 := blk_frozen BK234.out 1
    have hfz25_2 := blk_frozen BK234.out 2
    go_wp2_with (first | ((with_reducible refine gate_callee (f := 22) rfl ?_); refine goesL_ (some 26) rfl rfl Try.func22 (by kernel_rfl) rfl #[.agg #[.int .i64 a0_0, .slice A0_1 l0_1.length c0_1], .int .i64 a1, .int .i64 a2, .slice A3_1 l3_1.length c3_1] rfl (by (try simp only [List.map_toArray, List.map_cons, List.map_nil]); first | done | rfl | (simp only [List.length_drop, List.length_take]; rfl)) ?_; (with_reducible refine (codewrightref51_IsFlow.calls k a0_0 _ _ l0_1 a1 a2 _ _ l3_1 false _ ?side1 ?side2 ?side3 ?side4 A13.out).mono ?_); (case side1 => repeat (first | exact (Kd.C_below HR0_1.out HB.out) | (with_reducible refine Kd.C_alloc ?_ _) | (with_reducible refine Kd.C_drewN ?_ _) | (with_reducible refine Kd.C_drew ?_))); (case side2 => exact HC0_1.out); (case side3 => repeat (first | exact (Kd.C_below HR3_1.out HB.out) | (with_reducible refine Kd.C_alloc ?_ _) | (with_reducible refine Kd.C_drewN ?_ _) | (with_reducible refine Kd.C_drew ?_))); (case side4 => exact HC3_1.out); rintro e w26 ⟨rfl, hb⟩; refine ⟨_, rfl, ?_⟩; have n0_ := Aside0.mk (blk_below (g := gb233) (o := .cells #[.int .i64 a0_0, .slice A0_1 l0_1.length c0_1] 24 (0, 0)) (by (with_reducible repeat (first | refine blk_drewN ?_ _ | refine blk_drew ?_ | refine blk_alloc ?_ _)); exact BK233.out) hb); have n1_ := Aside0.mk (blk_below (g := gb234) (o := .cells #[.int .i64 a3_0, .slice A3_1 l3_1.length c3_1, .slice A3_2 l3_2.length c3_2] 39 (0, 0)) (by (with_reducible repeat (first | refine blk_drewN ?_ _ | refine blk_drew ?_ | refine blk_alloc ?_ _)); exact BK234.out) hb); have n2_ := Aside0.mk (below_step (by repeat (first | (with_reducible first | exact HB.out | apply below_alloc | apply pw_below_drewN | apply below_drew1 | refine below_set ?_ GE233.out | refine below_set ?_ GE234.out) | exact HB.out)) hb); clear BK233; clear BK234; clear HB; have BK233 := n0_; have BK234 := n1_; have HB := n2_; clear n0_ n1_ n2_; (try clear hb); (try clear hb2); (try clear hk); (try clear hi)))
    go_meet
    case rel => exact ⟨_, (true), (by first | rfl | (simp; done) | (simp [*]; done)), H', ⟨by first | omega | exact Nat.le_refl _⟩, ⟨by (with_reducible repeat (first | refine blk_drewN ?_ _ | refine blk_drew ?_ | refine blk_alloc ?_ _)); exact BK233.out⟩, ⟨by (with_reducible repeat (first | refine blk_drewN ?_ _ | refine blk_drew ?_ | refine blk_alloc ?_ _)); exact BK234.out⟩, ⟨by repeat (first | (with_reducible first | exact HB.out | apply below_alloc | apply pw_below_drewN | apply below_drew1 | refine below_set ?_ GE233.out | refine below_set ?_ GE234.out) | exact HB.out)⟩⟩
  case rest =>
   clear HC7
   try clear c1
   try clear c2
   try clear p2
   try clear c3
   try clear c6
   try clear c6b0
   try clear c6b1
   try clear c10
   try clear c14
   try clear c16
   try clear c21
   try clear c22
   try clear c23
   try clear c25
   try clear hcz11_0
   try clear hcz11_1
   try clear hcz17_0
   try clear hcz17_1
   try clear hcz18_0
   try clear hcz18_1
   try clear hcz18_2
   try clear hcz20_0
   try clear hcz20_1
   try clear hcz21_0
   try clear hcz21_1
   try clear hcz21_2
   try clear hcz24_0
   try clear hcz24_1
   try clear hcz25_0
   try clear hcz25_1
   try clear hcz25_2
   try clear hfz11_0
   try clear hfz11_1
   try clear hfz17_0
   try clear hfz17_1
   try clear hfz18_0
   try clear hfz18_1
   try clear hfz18_2
   try clear hfz20_0
   try clear hfz20_1
   try clear hfz21_0
   try clear hfz21_1
   try clear hfz21_2
   try clear hfz24_0
   try clear hfz24_1
   try clear hfz25_0
   try clear hfz25_1
   try clear hfz25_2
   obtain ⟨kq, x36_6, rfl, HA, HJ6, BK233, BK234, HB⟩ := hcut
   cases kq with
   | zero => exact absurd HA.out (by simp [codewrightref51_Accept.j0])
   | succ kj6 =>
    have H := HA.out
    clear HA
    simp only [codewrightref51_Accept.j0] at H
    by_cases c27 : x36_6 = true
    ·subst c27
     have H1 : (some 13) = some r := by rw [if_pos rfl] at H; exact H
     clear H
     have H := H1
     clear H1
     obtain rfl := Option.some.inj H
     go_wp2
     go_ret
     exact ⟨by first | rfl | (simp [errW_none, errW_some] <;> rfl) | (simp [*, errW_none, errW_some] <;> rfl), by repeat (first | (with_reducible first | exact HB.out | apply below_alloc | apply pw_below_drewN | apply below_drew1 | refine below_set ?_ GE233.out | refine below_set ?_ GE234.out) | exact HB.out)⟩
    ·replace c27 := Bool.eq_false_iff.mpr c27
     subst c27
     have H1 : ((codewrightref51_Value.f kj6 a0_0 l0_1 l3_1 a1).bind fun bt238 => ((codewrightref51_Cut.f kj6 a0_0 l0_1 l3_2).bind fun bt240 => (if bt238.1 = a3_0 then (if bt240.1 = a3_0 then (some 0) else (some 13)) else (some 13)))) = some r := by rw [if_neg (show ¬ (false = true) by decide)] at H; exact H
     clear H
     have H := H1
     clear H1
     replace H := Option.bind_eq_some_iff.mp H
     obtain ⟨⟨t238, t239⟩, A280, H⟩ := H
     replace H : ((codewrightref51_Cut.f kj6 a0_0 l0_1 l3_2).bind fun bt240 => (if t238 = a3_0 then (if bt240.1 = a3_0 then (some 0) else (some 13)) else (some 13))) = some r := H
     have A28 := Aside0.mk A280
     clear A280
     replace H := Option.bind_eq_some_iff.mp H
     obtain ⟨⟨t240, t241⟩, A290, H⟩ := H
     replace H : (if t238 = a3_0 then (if t240 = a3_0 then (some 0) else (some 13)) else (some 13)) = some r := H
     have A29 := Aside0.mk A290
     clear A290
     by_cases c30 : t238 = a3_0
     ·rw [if_pos c30] at H
      have c30b0 : (t238 == a3_0) = true := beq_iff_eq.mpr c30
      have c30b1 : (t238 != a3_0) = false := bne_eq_false_iff_eq.mpr c30
      clear c30
      by_cases c31 : t240 = a3_0
      ·rw [if_pos c31] at H
       have c31b0 : (t240 == a3_0) = true := beq_iff_eq.mpr c31
       have c31b1 : (t240 != a3_0) = false := bne_eq_false_iff_eq.mpr c31
       clear c31
       obtain rfl := Option.some.inj H
       have hnb32 := NB233_234.out
       have hnc32 := NB234_233.out
       have hcz33_0 : wc.cell? ⟨gb233, 0, none⟩ = some (.int .i64 a0_0) := (blk_cell BK233.out 0).trans rfl
       have hcz33_1 : wc.cell? ⟨gb233, 1, none⟩ = some (.slice A0_1 l0_1.length c0_1) := (blk_cell BK233.out 1).trans rfl
       have hfz33_0 := blk_frozen BK233.out 0
       have hfz33_1 := blk_frozen BK233.out 1
       have hcz34_0 : wc.cell? ⟨gb234, 0, none⟩ = some (.int .i64 a3_0) := (blk_cell BK234.out 0).trans rfl
       have hcz34_1 : wc.cell? ⟨gb234, 1, none⟩ = some (.slice A3_1 l3_1.length c3_1) := (blk_cell BK234.out 1).trans rfl
       have hcz34_2 : wc.cell? ⟨gb234, 2, none⟩ = some (.slice A3_2 l3_2.length c3_2) := (blk_cell BK234.out 2).trans rfl
       have hfz34_0 := blk_frozen BK234.out 0
       have hfz34_1 := blk_frozen BK234.out 1
       have hfz34_2 := blk_frozen BK234.out 2
       go_wp2_with (first | ((with_reducible refine gate_callee (f := 20) rfl ?_); refine goesL_ (some 42) rfl rfl Try.func20 (by kernel_rfl) rfl #[.agg #[.int .i64 a0_0, .slice A0_1 l0_1.length c0_1], .slice A3_1 l3_1.length c3_1, .int .i64 a1] rfl (by (try simp only [List.map_toArray, List.map_cons, List.map_nil]); first | done | rfl | (simp only [List.length_drop, List.length_take]; rfl)) ?_; (with_reducible refine (codewrightref51_Value.calls kj6 a0_0 _ _ l0_1 _ _ l3_1 a1 t238 t239 _ ?side1 ?side2 ?side3 ?side4 A28.out).mono ?_); (case side1 => repeat (first | exact (Kd.C_below HR0_1.out HB.out) | (with_reducible refine Kd.C_alloc ?_ _) | (with_reducible refine Kd.C_drewN ?_ _) | (with_reducible refine Kd.C_drew ?_))); (case side2 => exact HC0_1.out); (case side3 => repeat (first | exact (Kd.C_below HR3_1.out HB.out) | (with_reducible refine Kd.C_alloc ?_ _) | (with_reducible refine Kd.C_drewN ?_ _) | (with_reducible refine Kd.C_drew ?_))); (case side4 => exact HC3_1.out); rintro e w35 ⟨rfl, hb⟩; refine ⟨_, rfl, ?_⟩; have n0_ := Aside0.mk (blk_below (g := gb233) (o := .cells #[.int .i64 a0_0, .slice A0_1 l0_1.length c0_1] 24 (0, 0)) (by (with_reducible repeat (first | refine blk_drewN ?_ _ | refine blk_drew ?_ | refine blk_alloc ?_ _)); exact BK233.out) hb); have n1_ := Aside0.mk (blk_below (g := gb234) (o := .cells #[.int .i64 a3_0, .slice A3_1 l3_1.length c3_1, .slice A3_2 l3_2.length c3_2] 39 (0, 0)) (by (with_reducible repeat (first | refine blk_drewN ?_ _ | refine blk_drew ?_ | refine blk_alloc ?_ _)); exact BK234.out) hb); have n2_ := Aside0.mk (below_step (by repeat (first | (with_reducible first | exact HB.out | apply below_alloc | apply pw_below_drewN | apply below_drew1 | refine below_set ?_ GE233.out | refine below_set ?_ GE234.out) | exact HB.out)) hb); clear BK233; clear BK234; clear HB; have BK233 := n0_; have BK234 := n1_; have HB := n2_; clear n0_ n1_ n2_; (try clear hb); (try clear hb2); (try clear hk); (try clear hi); have hcz36_0 : w35.cell? ⟨gb233, 0, none⟩ = some (.int .i64 a0_0) := (blk_cell BK233.out 0).trans rfl; have hcz36_1 : w35.cell? ⟨gb233, 1, none⟩ = some (.slice A0_1 l0_1.length c0_1) := (blk_cell BK233.out 1).trans rfl; have hfz36_0 := blk_frozen BK233.out 0; have hfz36_1 := blk_frozen BK233.out 1; have hcz37_0 : w35.cell? ⟨gb234, 0, none⟩ = some (.int .i64 a3_0) := (blk_cell BK234.out 0).trans rfl; have hcz37_1 : w35.cell? ⟨gb234, 1, none⟩ = some (.slice A3_1 l3_1.length c3_1) := (blk_cell BK234.out 1).trans rfl; have hcz37_2 : w35.cell? ⟨gb234, 2, none⟩ = some (.slice A3_2 l3_2.length c3_2) := (blk_cell BK234.out 2).trans rfl; have hfz37_0 := blk_frozen BK234.out 0; have hfz37_1 := blk_frozen BK234.out 1; have hfz37_2 := blk_frozen BK234.out 2) | ((with_reducible refine gate_callee (f := 17) rfl ?_); refine goesL_ (some 49) rfl rfl Try.func17 (by kernel_rfl) rfl #[.agg #[.int .i64 a0_0, .slice A0_1 l0_1.length c0_1], .slice A3_2 l3_2.length c3_2] rfl (by (try simp only [List.map_toArray, List.map_cons, List.map_nil]); first | done | rfl | (simp only [List.length_drop, List.length_take]; rfl)) ?_; (with_reducible refine (codewrightref51_Cut.calls kj6 a0_0 _ _ l0_1 _ _ l3_2 t240 t241 _ ?side1 ?side2 ?side3 ?side4 A29.out).mono ?_); (case side1 => repeat (first | exact (Kd.C_below HR0_1.out HB.out) | (with_reducible refine Kd.C_alloc ?_ _) | (with_reducible refine Kd.C_drewN ?_ _) | (with_reducible refine Kd.C_drew ?_))); (case side2 => exact HC0_1.out); (case side3 => repeat (first | exact (Kd.C_below HR3_2.out HB.out) | (with_reducible refine Kd.C_alloc ?_ _) | (with_reducible refine Kd.C_drewN ?_ _) | (with_reducible refine Kd.C_drew ?_))); (case side4 => exact HC3_2.out); rintro e w38 ⟨rfl, hb⟩; refine ⟨_, rfl, ?_⟩; have n0_ := Aside0.mk (blk_below (g := gb233) (o := .cells #[.int .i64 a0_0, .slice A0_1 l0_1.length c0_1] 24 (0, 0)) (by (with_reducible repeat (first | refine blk_drewN ?_ _ | refine blk_drew ?_ | refine blk_alloc ?_ _)); exact BK233.out) hb); have n1_ := Aside0.mk (blk_below (g := gb234) (o := .cells #[.int .i64 a3_0, .slice A3_1 l3_1.length c3_1, .slice A3_2 l3_2.length c3_2] 39 (0, 0)) (by (with_reducible repeat (first | refine blk_drewN ?_ _ | refine blk_drew ?_ | refine blk_alloc ?_ _)); exact BK234.out) hb); have n2_ := Aside0.mk (below_step (by repeat (first | (with_reducible first | exact HB.out | apply below_alloc | apply pw_below_drewN | apply below_drew1 | refine below_set ?_ GE233.out | refine below_set ?_ GE234.out) | exact HB.out)) hb); clear BK233; clear BK234; clear HB; have BK233 := n0_; have BK234 := n1_; have HB := n2_; clear n0_ n1_ n2_; (try clear hb); (try clear hb2); (try clear hk); (try clear hi); have hcz39_0 : w38.cell? ⟨gb234, 0, none⟩ = some (.int .i64 a3_0) := (blk_cell BK234.out 0).trans rfl; have hcz39_1 : w38.cell? ⟨gb234, 1, none⟩ = some (.slice A3_1 l3_1.length c3_1) := (blk_cell BK234.out 1).trans rfl; have hcz39_2 : w38.cell? ⟨gb234, 2, none⟩ = some (.slice A3_2 l3_2.length c3_2) := (blk_cell BK234.out 2).trans rfl; have hfz39_0 := blk_frozen BK234.out 0; have hfz39_1 := blk_frozen BK234.out 1; have hfz39_2 := blk_frozen BK234.out 2))
       go_ret
       exact ⟨by first | rfl | (simp [errW_none, errW_some] <;> rfl) | (simp [*, errW_none, errW_some] <;> rfl), by repeat (first | (with_reducible first | exact HB.out | apply below_alloc | apply pw_below_drewN | apply below_drew1 | refine below_set ?_ GE233.out | refine below_set ?_ GE234.out) | exact HB.out)⟩
      ·rw [if_neg c31] at H
       have c31b0 : (t240 == a3_0) = false := beq_eq_false_iff_ne.mpr c31
       have c31b1 : (t240 != a3_0) = true := bne_iff_ne.mpr c31
       obtain rfl := Option.some.inj H
       have hnb40 := NB233_234.out
       have hnc40 := NB234_233.out
       have hcz41_0 : wc.cell? ⟨gb233, 0, none⟩ = some (.int .i64 a0_0) := (blk_cell BK233.out 0).trans rfl
       have hcz41_1 : wc.cell? ⟨gb233, 1, none⟩ = some (.slice A0_1 l0_1.length c0_1) := (blk_cell BK233.out 1).trans rfl
       have hfz41_0 := blk_frozen BK233.out 0
       have hfz41_1 := blk_frozen BK233.out 1
       have hcz42_0 : wc.cell? ⟨gb234, 0, none⟩ = some (.int .i64 a3_0) := (blk_cell BK234.out 0).trans rfl
       have hcz42_1 : wc.cell? ⟨gb234, 1, none⟩ = some (.slice A3_1 l3_1.length c3_1) := (blk_cell BK234.out 1).trans rfl
       have hcz42_2 : wc.cell? ⟨gb234, 2, none⟩ = some (.slice A3_2 l3_2.length c3_2) := (blk_cell BK234.out 2).trans rfl
       have hfz42_0 := blk_frozen BK234.out 0
       have hfz42_1 := blk_frozen BK234.out 1
       have hfz42_2 := blk_frozen BK234.out 2
       go_wp2_with (first | ((with_reducible refine gate_callee (f := 20) rfl ?_); refine goesL_ (some 42) rfl rfl Try.func20 (by kernel_rfl) rfl #[.agg #[.int .i64 a0_0, .slice A0_1 l0_1.length c0_1], .slice A3_1 l3_1.length c3_1, .int .i64 a1] rfl (by (try simp only [List.map_toArray, List.map_cons, List.map_nil]); first | done | rfl | (simp only [List.length_drop, List.length_take]; rfl)) ?_; (with_reducible refine (codewrightref51_Value.calls kj6 a0_0 _ _ l0_1 _ _ l3_1 a1 t238 t239 _ ?side1 ?side2 ?side3 ?side4 A28.out).mono ?_); (case side1 => repeat (first | exact (Kd.C_below HR0_1.out HB.out) | (with_reducible refine Kd.C_alloc ?_ _) | (with_reducible refine Kd.C_drewN ?_ _) | (with_reducible refine Kd.C_drew ?_))); (case side2 => exact HC0_1.out); (case side3 => repeat (first | exact (Kd.C_below HR3_1.out HB.out) | (with_reducible refine Kd.C_alloc ?_ _) | (with_reducible refine Kd.C_drewN ?_ _) | (with_reducible refine Kd.C_drew ?_))); (case side4 => exact HC3_1.out); rintro e w43 ⟨rfl, hb⟩; refine ⟨_, rfl, ?_⟩; have n0_ := Aside0.mk (blk_below (g := gb233) (o := .cells #[.int .i64 a0_0, .slice A0_1 l0_1.length c0_1] 24 (0, 0)) (by (with_reducible repeat (first | refine blk_drewN ?_ _ | refine blk_drew ?_ | refine blk_alloc ?_ _)); exact BK233.out) hb); have n1_ := Aside0.mk (blk_below (g := gb234) (o := .cells #[.int .i64 a3_0, .slice A3_1 l3_1.length c3_1, .slice A3_2 l3_2.length c3_2] 39 (0, 0)) (by (with_reducible repeat (first | refine blk_drewN ?_ _ | refine blk_drew ?_ | refine blk_alloc ?_ _)); exact BK234.out) hb); have n2_ := Aside0.mk (below_step (by repeat (first | (with_reducible first | exact HB.out | apply below_alloc | apply pw_below_drewN | apply below_drew1 | refine below_set ?_ GE233.out | refine below_set ?_ GE234.out) | exact HB.out)) hb); clear BK233; clear BK234; clear HB; have BK233 := n0_; have BK234 := n1_; have HB := n2_; clear n0_ n1_ n2_; (try clear hb); (try clear hb2); (try clear hk); (try clear hi); have hcz44_0 : w43.cell? ⟨gb233, 0, none⟩ = some (.int .i64 a0_0) := (blk_cell BK233.out 0).trans rfl; have hcz44_1 : w43.cell? ⟨gb233, 1, none⟩ = some (.slice A0_1 l0_1.length c0_1) := (blk_cell BK233.out 1).trans rfl; have hfz44_0 := blk_frozen BK233.out 0; have hfz44_1 := blk_frozen BK233.out 1; have hcz45_0 : w43.cell? ⟨gb234, 0, none⟩ = some (.int .i64 a3_0) := (blk_cell BK234.out 0).trans rfl; have hcz45_1 : w43.cell? ⟨gb234, 1, none⟩ = some (.slice A3_1 l3_1.length c3_1) := (blk_cell BK234.out 1).trans rfl; have hcz45_2 : w43.cell? ⟨gb234, 2, none⟩ = some (.slice A3_2 l3_2.length c3_2) := (blk_cell BK234.out 2).trans rfl; have hfz45_0 := blk_frozen BK234.out 0; have hfz45_1 := blk_frozen BK234.out 1; have hfz45_2 := blk_frozen BK234.out 2) | ((with_reducible refine gate_callee (f := 17) rfl ?_); refine goesL_ (some 49) rfl rfl Try.func17 (by kernel_rfl) rfl #[.agg #[.int .i64 a0_0, .slice A0_1 l0_1.length c0_1], .slice A3_2 l3_2.length c3_2] rfl (by (try simp only [List.map_toArray, List.map_cons, List.map_nil]); first | done | rfl | (simp only [List.length_drop, List.length_take]; rfl)) ?_; (with_reducible refine (codewrightref51_Cut.calls kj6 a0_0 _ _ l0_1 _ _ l3_2 t240 t241 _ ?side1 ?side2 ?side3 ?side4 A29.out).mono ?_); (case side1 => repeat (first | exact (Kd.C_below HR0_1.out HB.out) | (with_reducible refine Kd.C_alloc ?_ _) | (with_reducible refine Kd.C_drewN ?_ _) | (with_reducible refine Kd.C_drew ?_))); (case side2 => exact HC0_1.out); (case side3 => repeat (first | exact (Kd.C_below HR3_2.out HB.out) | (with_reducible refine Kd.C_alloc ?_ _) | (with_reducible refine Kd.C_drewN ?_ _) | (with_reducible refine Kd.C_drew ?_))); (case side4 => exact HC3_2.out); rintro e w46 ⟨rfl, hb⟩; refine ⟨_, rfl, ?_⟩; have n0_ := Aside0.mk (blk_below (g := gb233) (o := .cells #[.int .i64 a0_0, .slice A0_1 l0_1.length c0_1] 24 (0, 0)) (by (with_reducible repeat (first | refine blk_drewN ?_ _ | refine blk_drew ?_ | refine blk_alloc ?_ _)); exact BK233.out) hb); have n1_ := Aside0.mk (blk_below (g := gb234) (o := .cells #[.int .i64 a3_0, .slice A3_1 l3_1.length c3_1, .slice A3_2 l3_2.length c3_2] 39 (0, 0)) (by (with_reducible repeat (first | refine blk_drewN ?_ _ | refine blk_drew ?_ | refine blk_alloc ?_ _)); exact BK234.out) hb); have n2_ := Aside0.mk (below_step (by repeat (first | (with_reducible first | exact HB.out | apply below_alloc | apply pw_below_drewN | apply below_drew1 | refine below_set ?_ GE233.out | refine below_set ?_ GE234.out) | exact HB.out)) hb); clear BK233; clear BK234; clear HB; have BK233 := n0_; have BK234 := n1_; have HB := n2_; clear n0_ n1_ n2_; (try clear hb); (try clear hb2); (try clear hk); (try clear hi); have hcz47_0 : w46.cell? ⟨gb234, 0, none⟩ = some (.int .i64 a3_0) := (blk_cell BK234.out 0).trans rfl; have hcz47_1 : w46.cell? ⟨gb234, 1, none⟩ = some (.slice A3_1 l3_1.length c3_1) := (blk_cell BK234.out 1).trans rfl; have hcz47_2 : w46.cell? ⟨gb234, 2, none⟩ = some (.slice A3_2 l3_2.length c3_2) := (blk_cell BK234.out 2).trans rfl; have hfz47_0 := blk_frozen BK234.out 0; have hfz47_1 := blk_frozen BK234.out 1; have hfz47_2 := blk_frozen BK234.out 2))
       go_ret
       exact ⟨by first | rfl | (simp [errW_none, errW_some] <;> rfl) | (simp [*, errW_none, errW_some] <;> rfl), by repeat (first | (with_reducible first | exact HB.out | apply below_alloc | apply pw_below_drewN | apply below_drew1 | refine below_set ?_ GE233.out | refine below_set ?_ GE234.out) | exact HB.out)⟩
     ·rw [if_neg c30] at H
      have c30b0 : (t238 == a3_0) = false := beq_eq_false_iff_ne.mpr c30
      have c30b1 : (t238 != a3_0) = true := bne_iff_ne.mpr c30
      obtain rfl := Option.some.inj H
      have hnb48 := NB233_234.out
      have hnc48 := NB234_233.out
      have hcz49_0 : wc.cell? ⟨gb233, 0, none⟩ = some (.int .i64 a0_0) := (blk_cell BK233.out 0).trans rfl
      have hcz49_1 : wc.cell? ⟨gb233, 1, none⟩ = some (.slice A0_1 l0_1.length c0_1) := (blk_cell BK233.out 1).trans rfl
      have hfz49_0 := blk_frozen BK233.out 0
      have hfz49_1 := blk_frozen BK233.out 1
      have hcz50_0 : wc.cell? ⟨gb234, 0, none⟩ = some (.int .i64 a3_0) := (blk_cell BK234.out 0).trans rfl
      have hcz50_1 : wc.cell? ⟨gb234, 1, none⟩ = some (.slice A3_1 l3_1.length c3_1) := (blk_cell BK234.out 1).trans rfl
      have hcz50_2 : wc.cell? ⟨gb234, 2, none⟩ = some (.slice A3_2 l3_2.length c3_2) := (blk_cell BK234.out 2).trans rfl
      have hfz50_0 := blk_frozen BK234.out 0
      have hfz50_1 := blk_frozen BK234.out 1
      have hfz50_2 := blk_frozen BK234.out 2
      go_wp2_with (first | ((with_reducible refine gate_callee (f := 20) rfl ?_); refine goesL_ (some 42) rfl rfl Try.func20 (by kernel_rfl) rfl #[.agg #[.int .i64 a0_0, .slice A0_1 l0_1.length c0_1], .slice A3_1 l3_1.length c3_1, .int .i64 a1] rfl (by (try simp only [List.map_toArray, List.map_cons, List.map_nil]); first | done | rfl | (simp only [List.length_drop, List.length_take]; rfl)) ?_; (with_reducible refine (codewrightref51_Value.calls kj6 a0_0 _ _ l0_1 _ _ l3_1 a1 t238 t239 _ ?side1 ?side2 ?side3 ?side4 A28.out).mono ?_); (case side1 => repeat (first | exact (Kd.C_below HR0_1.out HB.out) | (with_reducible refine Kd.C_alloc ?_ _) | (with_reducible refine Kd.C_drewN ?_ _) | (with_reducible refine Kd.C_drew ?_))); (case side2 => exact HC0_1.out); (case side3 => repeat (first | exact (Kd.C_below HR3_1.out HB.out) | (with_reducible refine Kd.C_alloc ?_ _) | (with_reducible refine Kd.C_drewN ?_ _) | (with_reducible refine Kd.C_drew ?_))); (case side4 => exact HC3_1.out); rintro e w51 ⟨rfl, hb⟩; refine ⟨_, rfl, ?_⟩; have n0_ := Aside0.mk (blk_below (g := gb233) (o := .cells #[.int .i64 a0_0, .slice A0_1 l0_1.length c0_1] 24 (0, 0)) (by (with_reducible repeat (first | refine blk_drewN ?_ _ | refine blk_drew ?_ | refine blk_alloc ?_ _)); exact BK233.out) hb); have n1_ := Aside0.mk (blk_below (g := gb234) (o := .cells #[.int .i64 a3_0, .slice A3_1 l3_1.length c3_1, .slice A3_2 l3_2.length c3_2] 39 (0, 0)) (by (with_reducible repeat (first | refine blk_drewN ?_ _ | refine blk_drew ?_ | refine blk_alloc ?_ _)); exact BK234.out) hb); have n2_ := Aside0.mk (below_step (by repeat (first | (with_reducible first | exact HB.out | apply below_alloc | apply pw_below_drewN | apply below_drew1 | refine below_set ?_ GE233.out | refine below_set ?_ GE234.out) | exact HB.out)) hb); clear BK233; clear BK234; clear HB; have BK233 := n0_; have BK234 := n1_; have HB := n2_; clear n0_ n1_ n2_; (try clear hb); (try clear hb2); (try clear hk); (try clear hi); have hcz52_0 : w51.cell? ⟨gb233, 0, none⟩ = some (.int .i64 a0_0) := (blk_cell BK233.out 0).trans rfl; have hcz52_1 : w51.cell? ⟨gb233, 1, none⟩ = some (.slice A0_1 l0_1.length c0_1) := (blk_cell BK233.out 1).trans rfl; have hfz52_0 := blk_frozen BK233.out 0; have hfz52_1 := blk_frozen BK233.out 1; have hcz53_0 : w51.cell? ⟨gb234, 0, none⟩ = some (.int .i64 a3_0) := (blk_cell BK234.out 0).trans rfl; have hcz53_1 : w51.cell? ⟨gb234, 1, none⟩ = some (.slice A3_1 l3_1.length c3_1) := (blk_cell BK234.out 1).trans rfl; have hcz53_2 : w51.cell? ⟨gb234, 2, none⟩ = some (.slice A3_2 l3_2.length c3_2) := (blk_cell BK234.out 2).trans rfl; have hfz53_0 := blk_frozen BK234.out 0; have hfz53_1 := blk_frozen BK234.out 1; have hfz53_2 := blk_frozen BK234.out 2) | ((with_reducible refine gate_callee (f := 17) rfl ?_); refine goesL_ (some 49) rfl rfl Try.func17 (by kernel_rfl) rfl #[.agg #[.int .i64 a0_0, .slice A0_1 l0_1.length c0_1], .slice A3_2 l3_2.length c3_2] rfl (by (try simp only [List.map_toArray, List.map_cons, List.map_nil]); first | done | rfl | (simp only [List.length_drop, List.length_take]; rfl)) ?_; (with_reducible refine (codewrightref51_Cut.calls kj6 a0_0 _ _ l0_1 _ _ l3_2 t240 t241 _ ?side1 ?side2 ?side3 ?side4 A29.out).mono ?_); (case side1 => repeat (first | exact (Kd.C_below HR0_1.out HB.out) | (with_reducible refine Kd.C_alloc ?_ _) | (with_reducible refine Kd.C_drewN ?_ _) | (with_reducible refine Kd.C_drew ?_))); (case side2 => exact HC0_1.out); (case side3 => repeat (first | exact (Kd.C_below HR3_2.out HB.out) | (with_reducible refine Kd.C_alloc ?_ _) | (with_reducible refine Kd.C_drewN ?_ _) | (with_reducible refine Kd.C_drew ?_))); (case side4 => exact HC3_2.out); rintro e w54 ⟨rfl, hb⟩; refine ⟨_, rfl, ?_⟩; have n0_ := Aside0.mk (blk_below (g := gb233) (o := .cells #[.int .i64 a0_0, .slice A0_1 l0_1.length c0_1] 24 (0, 0)) (by (with_reducible repeat (first | refine blk_drewN ?_ _ | refine blk_drew ?_ | refine blk_alloc ?_ _)); exact BK233.out) hb); have n1_ := Aside0.mk (blk_below (g := gb234) (o := .cells #[.int .i64 a3_0, .slice A3_1 l3_1.length c3_1, .slice A3_2 l3_2.length c3_2] 39 (0, 0)) (by (with_reducible repeat (first | refine blk_drewN ?_ _ | refine blk_drew ?_ | refine blk_alloc ?_ _)); exact BK234.out) hb); have n2_ := Aside0.mk (below_step (by repeat (first | (with_reducible first | exact HB.out | apply below_alloc | apply pw_below_drewN | apply below_drew1 | refine below_set ?_ GE233.out | refine below_set ?_ GE234.out) | exact HB.out)) hb); clear BK233; clear BK234; clear HB; have BK233 := n0_; have BK234 := n1_; have HB := n2_; clear n0_ n1_ n2_; (try clear hb); (try clear hb2); (try clear hk); (try clear hi); have hcz55_0 : w54.cell? ⟨gb234, 0, none⟩ = some (.int .i64 a3_0) := (blk_cell BK234.out 0).trans rfl; have hcz55_1 : w54.cell? ⟨gb234, 1, none⟩ = some (.slice A3_1 l3_1.length c3_1) := (blk_cell BK234.out 1).trans rfl; have hcz55_2 : w54.cell? ⟨gb234, 2, none⟩ = some (.slice A3_2 l3_2.length c3_2) := (blk_cell BK234.out 2).trans rfl; have hfz55_0 := blk_frozen BK234.out 0; have hfz55_1 := blk_frozen BK234.out 1; have hfz55_2 := blk_frozen BK234.out 2))
      go_ret
      exact ⟨by first | rfl | (simp [errW_none, errW_some] <;> rfl) | (simp [*, errW_none, errW_some] <;> rfl), by repeat (first | (with_reducible first | exact HB.out | apply below_alloc | apply pw_below_drewN | apply below_drew1 | refine below_set ?_ GE233.out | refine below_set ?_ GE234.out) | exact HB.out)⟩
 ·rw [if_neg c6] at H
  have c6b0 : (t235 == 0) = false := beq_eq_false_iff_ne.mpr c6
  have c6b1 : (t235 != 0) = true := bne_iff_ne.mpr c6
  obtain rfl := Option.some.inj H
  go_enter Try.func25, Try.ntmps25
  go_wp2_with (first | ((with_reducible refine gate_dst (N := 4) rfl ?_); refine box_event ?hg (N := 4) ?hd (cs := #[.int .i64 a0_0, .slice A0_1 l0_1.length c0_1]) (t := 24) ?hr ?_; (case hd => rfl); (case hg => rfl); (case hr => first | (go_simp; done) | (go_simp; rfl)); intro gb233 hg w56 hbox hb; have n0_ := Aside0.mk (below_step (by repeat (first | (with_reducible first | exact HB.out | apply below_alloc | apply pw_below_drewN | apply below_drew1) | exact HB.out)) hb); have n1_ := Aside0.mk (hbox); have n2_ := Aside0.mk ((by rw [hg]; exact (below_size (by repeat (first | (with_reducible first | exact HB.out | apply below_alloc | apply pw_below_drewN | apply below_drew1) | exact HB.out))) : w.heap.size ≤ gb233)); have n3_ := Aside0.mk ((by rw [hg]; exact (below_size (by repeat (first | (with_reducible first | exact HB.out | apply below_alloc | apply pw_below_drewN | apply below_drew1) | exact HB.out))) : w.heap.size ≤ gb233)); clear HB; have HB := n0_; have BK233 := n1_; have GW233 := n2_; have GE233 := n3_; clear n0_ n1_ n2_ n3_; clear hb hbox hg) | ((with_reducible refine gate_dst (N := 7) rfl ?_); refine box_event ?hg (N := 7) ?hd (cs := #[.int .i64 a3_0, .slice A3_1 l3_1.length c3_1, .slice A3_2 l3_2.length c3_2]) (t := 39) ?hr ?_; (case hd => rfl); (case hg => rfl); (case hr => first | (go_simp; done) | (go_simp; rfl)); intro gb234 hg w57 hbox hb; have n0_ := Aside0.mk (blk_below (g := gb233) (o := .cells #[.int .i64 a0_0, .slice A0_1 l0_1.length c0_1] 24 (0, 0)) (by (with_reducible repeat (first | refine blk_drewN ?_ _ | refine blk_drew ?_ | refine blk_alloc ?_ _)); exact BK233.out) hb); have n1_ := Aside0.mk (below_step (by repeat (first | (with_reducible first | exact HB.out | apply below_alloc | apply pw_below_drewN | apply below_drew1 | refine below_set ?_ GE233.out) | exact HB.out)) hb); have n2_ := Aside0.mk (hbox); have n3_ := Aside0.mk ((by rw [hg]; exact (below_size (by repeat (first | (with_reducible first | exact HB.out | apply below_alloc | apply pw_below_drewN | apply below_drew1 | refine below_set ?_ GE233.out) | exact HB.out))) : w.heap.size ≤ gb234)); have n4_ := Aside0.mk ((by rw [hg]; exact (below_size (by repeat (first | (with_reducible first | exact HB.out | apply below_alloc | apply pw_below_drewN | apply below_drew1 | refine below_set ?_ GE233.out) | exact HB.out))) : w.heap.size ≤ gb234)); have n5_ := Aside0.mk ((by rw [hg]; exact Nat.ne_of_lt (blk_lt (g := gb233) (o := .cells #[.int .i64 a0_0, .slice A0_1 l0_1.length c0_1] 24 (0, 0)) (by (with_reducible repeat (first | refine blk_drewN ?_ _ | refine blk_drew ?_ | refine blk_alloc ?_ _)); exact BK233.out)) : gb233 ≠ gb234)); have n6_ := Aside0.mk ((by rw [hg]; exact Nat.ne_of_gt (blk_lt (g := gb233) (o := .cells #[.int .i64 a0_0, .slice A0_1 l0_1.length c0_1] 24 (0, 0)) (by (with_reducible repeat (first | refine blk_drewN ?_ _ | refine blk_drew ?_ | refine blk_alloc ?_ _)); exact BK233.out)) : gb234 ≠ gb233)); clear BK233; clear HB; have BK233 := n0_; have HB := n1_; have BK234 := n2_; have GW234 := n3_; have GE234 := n4_; have NB233_234 := n5_; have NB234_233 := n6_; clear n0_ n1_ n2_ n3_ n4_ n5_ n6_; clear hb hbox hg; have hnb58 := NB233_234.out; have hnc58 := NB234_233.out; have hcz59_0 : w57.cell? ⟨gb233, 0, none⟩ = some (.int .i64 a0_0) := (blk_cell BK233.out 0).trans rfl; have hcz59_1 : w57.cell? ⟨gb233, 1, none⟩ = some (.slice A0_1 l0_1.length c0_1) := (blk_cell BK233.out 1).trans rfl; have hfz59_0 := blk_frozen BK233.out 0; have hfz59_1 := blk_frozen BK233.out 1) | ((with_reducible refine gate_callee (f := 21) rfl ?_); refine goesL_ (some 17) rfl rfl Try.func21 (by kernel_rfl) rfl #[.agg #[.int .i64 a0_0, .slice A0_1 l0_1.length c0_1], .int .i64 a1, .int .i64 a2] rfl (by (try simp only [List.map_toArray, List.map_cons, List.map_nil]); first | done | rfl | (simp only [List.length_drop, List.length_take]; rfl)) ?_; (with_reducible refine (codewrightref51_Ends.calls k a0_0 _ _ l0_1 a1 a2 t235 _ ?side1 ?side2 A5.out).mono ?_); (case side1 => repeat (first | exact (Kd.C_below HR0_1.out HB.out) | (with_reducible refine Kd.C_alloc ?_ _) | (with_reducible refine Kd.C_drewN ?_ _) | (with_reducible refine Kd.C_drew ?_))); (case side2 => exact HC0_1.out); rintro e w60 ⟨rfl, hb⟩; refine ⟨_, rfl, ?_⟩; have n0_ := Aside0.mk (blk_below (g := gb233) (o := .cells #[.int .i64 a0_0, .slice A0_1 l0_1.length c0_1] 24 (0, 0)) (by (with_reducible repeat (first | refine blk_drewN ?_ _ | refine blk_drew ?_ | refine blk_alloc ?_ _)); exact BK233.out) hb); have n1_ := Aside0.mk (blk_below (g := gb234) (o := .cells #[.int .i64 a3_0, .slice A3_1 l3_1.length c3_1, .slice A3_2 l3_2.length c3_2] 39 (0, 0)) (by (with_reducible repeat (first | refine blk_drewN ?_ _ | refine blk_drew ?_ | refine blk_alloc ?_ _)); exact BK234.out) hb); have n2_ := Aside0.mk (below_step (by repeat (first | (with_reducible first | exact HB.out | apply below_alloc | apply pw_below_drewN | apply below_drew1 | refine below_set ?_ GE233.out | refine below_set ?_ GE234.out) | exact HB.out)) hb); clear BK233; clear BK234; clear HB; have BK233 := n0_; have BK234 := n1_; have HB := n2_; clear n0_ n1_ n2_; (try clear hb); (try clear hb2); (try clear hk); (try clear hi)))
  go_ret
  exact ⟨by first | rfl | (simp [errW_none, errW_some] <;> rfl) | (simp [*, errW_none, errW_some] <;> rfl), by repeat (first | (with_reducible first | exact HB.out | apply below_alloc | apply pw_below_drewN | apply below_drew1 | refine below_set ?_ GE233.out | refine below_set ?_ GE234.out) | exact HB.out)⟩

end Go.Proofs.Ytidomjhihfoabaa.PF
