-- thin
-- printed by a program out of Lean's own print of the program (the kit's print.py, one namespace for several laws)
import Derived.Test.YtidomjhihfoabaaPFx0
import Derived.Test.YtidomjhihfoabaaPFx15
namespace Go.Proofs.Ytidomjhihfoabaa.PF
open Go.RowKit Go.Proofs.YtidomjhihfoabaaW.PrintWords Go.Proofs.YtidomjhihfoabaaW.PrintLast Go.Proofs.YtidomjhihfoabaaW.PrintMore
attribute [local go_sem] max2_int min2_int max_two min_two max_three min_three max_four min_four   -- for this text's walks alone
set_option linter.unusedVariables false
set_option linter.unusedSimpArgs false

/-! ### codewrightref51_Cut: function 17 -/
def codewrightref51_Cut.l0 : Nat → List Bool → Int → Int → Int → List (S36) → Option (Int × Int)
 | 0, _, _, _, _, _ => none
 | k + 1, x1, x7, x8, x120000, x120001 => if x8 < (x120001.length : Int) then (if 0 ≤ x8 then (if 0 ≤ ((rd_T36 x120001 x8).f0) then (if ((rd_T36 x120001 x8).f0) < (x1.length : Int) then (if rdOf false x1 ((rd_T36 x120001 x8).f0) = true then (if 0 ≤ ((rd_T36 x120001 x8).f1) then (if ((rd_T36 x120001 x8).f1) < (x1.length : Int) then (if (rdOf false x1 ((rd_T36 x120001 x8).f1) = true) then (codewrightref51_Cut.l0 k x1 x7 (wrap64 (x8 + 1)) x120000 x120001) else (codewrightref51_Cut.l0 k x1 (wrap64 (x7 + ((rd_T36 x120001 x8).f2))) (wrap64 (x8 + 1)) x120000 x120001)) else (none)) else (none)) else (codewrightref51_Cut.l0 k x1 x7 (wrap64 (x8 + 1)) x120000 x120001)) else (none)) else (none)) else (none)) else (some (x7, 0))
def codewrightref51_Cut.f (k : Nat) (a0_0 : Int) (l0_1 : List (S36)) (l1 : List Bool) : Option (Int × Int) := (codewrightref51_Check.f k a0_0 l0_1).bind fun t120 => (if t120 = 0 then (if (l1.length : Int) = a0_0 then (codewrightref51_Cut.l0 k l1 0 0 a0_0 l0_1) else (some (0, 3))) else (some (0, t120)))
theorem codewrightref51_Cut.mono_l : ∀ k, (∀ y0 y1 y2 y3 y4, LeO (codewrightref51_Cut.l0 k y0 y1 y2 y3 y4) (codewrightref51_Cut.l0 (k + 1) y0 y1 y2 y3 y4))
 | 0 => fun _ _ _ _ _ r h => by simp [codewrightref51_Cut.l0] at h
 | k + 1 => by
  have ih0 := codewrightref51_Cut.mono_l k
  ·intro y0 y1 y2 y3 y4
   unfold codewrightref51_Cut.l0
   repeat' first
   | (with_reducible exact ih0 _ _ _ _ _)
   | (with_reducible exact codewrightref51_Check.mono _ _ _)
   | (with_reducible exact LeO.refl _)
   | (with_reducible exact LeO.none _)
   | (with_reducible refine LeO.ite ?_ ?_)
   | (with_reducible refine LeO.bind ?_ (fun _ => ?_))
   | exact ih0 _ _ _ _ _
   | exact codewrightref51_Check.mono _ _ _
   | exact LeO.none _
   | refine LeO.ite ?_ ?_
   | refine LeO.bind ?_ (fun _ => ?_)
theorem codewrightref51_Cut.mono : ∀ a0 a1 a2 k, LeO (codewrightref51_Cut.f k a0 a1 a2) (codewrightref51_Cut.f (k + 1) a0 a1 a2) := by
 intro a0 a1 a2 k
 have ih0 := codewrightref51_Cut.mono_l k
 unfold codewrightref51_Cut.f
 repeat' first
   | (with_reducible exact ih0 _ _ _ _ _)
   | (with_reducible exact codewrightref51_Check.mono _ _ _)
   | (with_reducible exact LeO.refl _)
   | (with_reducible exact LeO.none _)
   | (with_reducible refine LeO.ite ?_ ?_)
   | (with_reducible refine LeO.bind ?_ (fun _ => ?_))
   | exact ih0 _ _ _ _ _
   | exact codewrightref51_Check.mono _ _ _
   | exact LeO.none _
   | refine LeO.ite ?_ ?_
   | refine LeO.bind ?_ (fun _ => ?_)
set_option maxHeartbeats 8000000 in
set_option maxRecDepth 100000 in
theorem codewrightref51_Cut.calls (k : Nat) (a0_0 : Int) (A0_1 : Option Addr) (c0_1 : Nat) (l0_1 : List (S36)) (A1 : Option Addr) (c1 : Nat) (l1 : List Bool) (r1 : Int) (r2 : Int) (w : World) (hr0_1 : Kd.C k36 w A0_1 l0_1.length l0_1) (hc0_1 : l0_1.length ≤ c0_1) (hr1 : Kd.C Kd.bool w A1 l1.length l1) (hc1 : l1.length ≤ c1) (h : codewrightref51_Cut.f k a0_0 l0_1 l1 = some (r1, r2)) :
  Calls Try.prog 17 #[.agg #[.int .i64 a0_0, .slice A0_1 l0_1.length c0_1], .slice A1 l1.length c1] w fun e w' => e = .returned (.tuple #[.int .i64 r1, .int .i64 r2]) ∧ Below w.heap.size w w' := by
 have hu24 := Try.underlying24
 have HR0_1 := Aside0.mk hr0_1
 have HC0_1 := Aside0.mk hc0_1
 clear hr0_1 hc0_1
 have HR1 := Aside0.mk hr1
 have HC1 := Aside0.mk hc1
 clear hr1 hc1
 have HB := Aside0.mk (Below.refl w.heap.size w)
 have H : ((codewrightref51_Check.f k a0_0 l0_1).bind fun t120 => (if t120 = 0 then (if (l1.length : Int) = a0_0 then (codewrightref51_Cut.l0 k l1 0 0 a0_0 l0_1) else (some (0, 3))) else (some (0, t120)))) = some (r1, r2) := h
 clear h
 replace H := Option.bind_eq_some_iff.mp H
 obtain ⟨t120, A30, H⟩ := H
 replace H : (if t120 = 0 then (if (l1.length : Int) = a0_0 then (codewrightref51_Cut.l0 k l1 0 0 a0_0 l0_1) else (some (0, 3))) else (some (0, t120))) = some (r1, r2) := H
 have A3 := Aside0.mk A30
 clear A30
 by_cases c4 : t120 = 0
 ·rw [if_pos c4] at H
  have c4b0 : (t120 == 0) = true := beq_iff_eq.mpr c4
  have c4b1 : (t120 != 0) = false := bne_eq_false_iff_eq.mpr c4
  clear c4
  by_cases c5 : (l1.length : Int) = a0_0
  ·rw [if_pos c5] at H
   have c5b0 : ((l1.length : Int) == a0_0) = true := beq_iff_eq.mpr c5
   have c5b1 : ((l1.length : Int) != a0_0) = false := bne_eq_false_iff_eq.mpr c5
   clear c5
   have H' := Aside0.mk H
   clear H
   go_enter Try.func17, Try.ntmps17
   go_wp2_with (first | ((with_reducible refine gate_dst (N := 2) rfl ?_); refine box_event ?hg (N := 2) ?hd (cs := #[.int .i64 a0_0, .slice A0_1 l0_1.length c0_1]) (t := 24) ?hr ?_; (case hd => rfl); (case hg => rfl); (case hr => first | (go_simp; done) | (go_simp; rfl)); intro gb119 hg w6 hbox hb; have n0_ := Aside0.mk (below_step (by repeat (first | (with_reducible first | exact HB.out | apply below_alloc | apply pw_below_drewN | apply below_drew1) | exact HB.out)) hb); have n1_ := Aside0.mk (hbox); have n2_ := Aside0.mk ((by rw [hg]; exact (below_size (by repeat (first | (with_reducible first | exact HB.out | apply below_alloc | apply pw_below_drewN | apply below_drew1) | exact HB.out))) : w.heap.size ≤ gb119)); have n3_ := Aside0.mk ((by rw [hg]; exact (below_size (by repeat (first | (with_reducible first | exact HB.out | apply below_alloc | apply pw_below_drewN | apply below_drew1) | exact HB.out))) : w.heap.size ≤ gb119)); clear HB; have HB := n0_; have BK119 := n1_; have GW119 := n2_; have GE119 := n3_; clear n0_ n1_ n2_ n3_; clear hb hbox hg; have hcz7_0 : w6.cell? ⟨gb119, 0, none⟩ = some (.int .i64 a0_0) := (blk_cell BK119.out 0).trans rfl; have hcz7_1 : w6.cell? ⟨gb119, 1, none⟩ = some (.slice A0_1 l0_1.length c0_1) := (blk_cell BK119.out 1).trans rfl; have hfz7_0 := blk_frozen BK119.out 0; have hfz7_1 := blk_frozen BK119.out 1) | ((with_reducible refine gate_callee (f := 15) rfl ?_); refine goesL_ (some 10) rfl rfl Try.func15 (by kernel_rfl) rfl #[.agg #[.int .i64 a0_0, .slice A0_1 l0_1.length c0_1]] rfl (by (try simp only [List.map_toArray, List.map_cons, List.map_nil]); first | done | rfl | (simp only [List.length_drop, List.length_take]; rfl)) ?_; (with_reducible refine (codewrightref51_Check.calls k a0_0 _ _ l0_1 t120 _ ?side1 ?side2 A3.out).mono ?_); (case side1 => repeat (first | exact (Kd.C_below HR0_1.out HB.out) | (with_reducible refine Kd.C_alloc ?_ _) | (with_reducible refine Kd.C_drewN ?_ _) | (with_reducible refine Kd.C_drew ?_))); (case side2 => exact HC0_1.out); rintro e w8 ⟨rfl, hb⟩; refine ⟨_, rfl, ?_⟩; have n0_ := Aside0.mk (blk_below (g := gb119) (o := .cells #[.int .i64 a0_0, .slice A0_1 l0_1.length c0_1] 24 (0, 0)) (by (with_reducible repeat (first | refine blk_drewN ?_ _ | refine blk_drew ?_ | refine blk_alloc ?_ _)); exact BK119.out) hb); have n1_ := Aside0.mk (below_step (by repeat (first | (with_reducible first | exact HB.out | apply below_alloc | apply pw_below_drewN | apply below_drew1 | refine below_set ?_ GE119.out) | exact HB.out)) hb); clear BK119; clear HB; have BK119 := n0_; have HB := n1_; clear n0_ n1_; (try clear hb); (try clear hb2); (try clear hk); (try clear hi); have hcz9_0 : w8.cell? ⟨gb119, 0, none⟩ = some (.int .i64 a0_0) := (blk_cell BK119.out 0).trans rfl; have hcz9_1 : w8.cell? ⟨gb119, 1, none⟩ = some (.slice A0_1 l0_1.length c0_1) := (blk_cell BK119.out 1).trans rfl; have hfz9_0 := blk_frozen BK119.out 0; have hfz9_1 := blk_frozen BK119.out 1))
   go_loopg [7, 8] k (fun kq v7 v8 w' => ∃ (x7_1 : Int) (x8_1 : Int), v7 = .int .i64 x7_1 ∧ v8 = .int .i64 x8_1 ∧ Aside0 (codewrightref51_Cut.l0 kq l1 x7_1 x8_1 a0_0 l0_1 = some (r1, r2)) ∧ Aside0 (kq ≤ k) ∧ Aside0 (w'.heap[gb119]? = some (.cells #[.int .i64 a0_0, (.slice A0_1 l0_1.length c0_1)] 24 (0, 0))) ∧ Aside0 (Below w.heap.size w w'))
   case atStart => exact ⟨(0), (0), (by first | rfl | (simp; done) | (simp [*]; done)), (by first | rfl | (simp; done) | (simp [*]; done)), H', ⟨Nat.le_refl _⟩, ⟨by (with_reducible repeat (first | refine blk_drewN ?_ _ | refine blk_drew ?_ | refine blk_alloc ?_ _)); exact BK119.out⟩, ⟨by repeat (first | (with_reducible first | exact HB.out | apply below_alloc | apply pw_below_drewN | apply below_drew1 | refine below_set ?_ GE119.out) | exact HB.out)⟩⟩
   case round =>
    clear H'
    try clear c1
    try clear p2
    try clear c4
    try clear c4b0
    try clear c4b1
    try clear c5
    try clear c5b0
    try clear c5b1
    try clear hcz7_0
    try clear hcz7_1
    try clear hcz9_0
    try clear hcz9_1
    try clear hfz7_0
    try clear hfz7_1
    try clear hfz9_0
    try clear hfz9_1
    obtain ⟨x7_1, x8_1, rfl, rfl, HA, HK1, BK119, HB⟩ := hrel
    cases gk with
    | zero => exact absurd HA.out (by simp [codewrightref51_Cut.l0])
    | succ k1 =>
     have H := HA.out
     clear HA
     simp only [codewrightref51_Cut.l0] at H
     by_cases c10 : x8_1 < (l0_1.length : Int)
     ·rw [if_pos c10] at H
      have c10b0 : decide (x8_1 < (l0_1.length : Int)) = true := decide_eq_true c10
      clear c10
      by_cases c11 : 0 ≤ x8_1
      ·rw [if_pos c11] at H
       have c11b0 : decide (0 ≤ x8_1) = true := decide_eq_true c11
       clear c11
       by_cases c12 : 0 ≤ ((rd_T36 l0_1 x8_1).f0)
       ·rw [if_pos c12] at H
        have c12b0 : decide (0 ≤ ((rd_T36 l0_1 x8_1).f0)) = true := decide_eq_true c12
        clear c12
        by_cases c13 : ((rd_T36 l0_1 x8_1).f0) < (l1.length : Int)
        ·rw [if_pos c13] at H
         have c13b0 : decide (((rd_T36 l0_1 x8_1).f0) < (l1.length : Int)) = true := decide_eq_true c13
         clear c13
         obtain ⟨bq14, hbq14⟩ : ∃ b_ : Bool, b_ = (rdOf false l1 ((rd_T36 l0_1 x8_1).f0)) := ⟨_, rfl⟩
         replace H : (if bq14 = true then (if 0 ≤ ((rd_T36 l0_1 x8_1).f1) then (if ((rd_T36 l0_1 x8_1).f1) < (l1.length : Int) then (if (rdOf false l1 ((rd_T36 l0_1 x8_1).f1) = true) then (codewrightref51_Cut.l0 k1 l1 x7_1 (wrap64 (x8_1 + 1)) a0_0 l0_1) else (codewrightref51_Cut.l0 k1 l1 (wrap64 (x7_1 + ((rd_T36 l0_1 x8_1).f2))) (wrap64 (x8_1 + 1)) a0_0 l0_1)) else (none)) else (none)) else (codewrightref51_Cut.l0 k1 l1 x7_1 (wrap64 (x8_1 + 1)) a0_0 l0_1)) = some (r1, r2) := by rw [← hbq14] at H; exact H
         have Nbq14 := Aside0.mk hbq14
         clear hbq14
         by_cases c15 : bq14 = true
         ·subst c15
          have H1 : (if 0 ≤ ((rd_T36 l0_1 x8_1).f1) then (if ((rd_T36 l0_1 x8_1).f1) < (l1.length : Int) then (if (rdOf false l1 ((rd_T36 l0_1 x8_1).f1) = true) then (codewrightref51_Cut.l0 k1 l1 x7_1 (wrap64 (x8_1 + 1)) a0_0 l0_1) else (codewrightref51_Cut.l0 k1 l1 (wrap64 (x7_1 + ((rd_T36 l0_1 x8_1).f2))) (wrap64 (x8_1 + 1)) a0_0 l0_1)) else (none)) else (none)) = some (r1, r2) := by rw [if_pos rfl] at H; exact H
          clear H
          have H := H1
          clear H1
          by_cases c16 : 0 ≤ ((rd_T36 l0_1 x8_1).f1)
          ·rw [if_pos c16] at H
           have c16b0 : decide (0 ≤ ((rd_T36 l0_1 x8_1).f1)) = true := decide_eq_true c16
           clear c16
           by_cases c17 : ((rd_T36 l0_1 x8_1).f1) < (l1.length : Int)
           ·rw [if_pos c17] at H
            have c17b0 : decide (((rd_T36 l0_1 x8_1).f1) < (l1.length : Int)) = true := decide_eq_true c17
            clear c17
            obtain ⟨bq18, hbq18⟩ : ∃ b_ : Bool, b_ = (rdOf false l1 ((rd_T36 l0_1 x8_1).f1)) := ⟨_, rfl⟩
            replace H : (if (bq18 = true) then (codewrightref51_Cut.l0 k1 l1 x7_1 (wrap64 (x8_1 + 1)) a0_0 l0_1) else (codewrightref51_Cut.l0 k1 l1 (wrap64 (x7_1 + ((rd_T36 l0_1 x8_1).f2))) (wrap64 (x8_1 + 1)) a0_0 l0_1)) = some (r1, r2) := by rw [← hbq18] at H; exact H
            have Nbq18 := Aside0.mk hbq18
            clear hbq18
            by_cases c19 : (bq18 = true)
            ·subst c19
             have H1 : (codewrightref51_Cut.l0 k1 l1 x7_1 (wrap64 (x8_1 + 1)) a0_0 l0_1) = some (r1, r2) := by rw [if_pos rfl] at H; exact H
             clear H
             have H := H1
             clear H1
             have H' := Aside0.mk H
             clear H
             have hcz20_0 : wr.cell? ⟨gb119, 0, none⟩ = some (.int .i64 a0_0) := (blk_cell BK119.out 0).trans rfl
             have hcz20_1 : wr.cell? ⟨gb119, 1, none⟩ = some (.slice A0_1 l0_1.length c0_1) := (blk_cell BK119.out 1).trans rfl
             have hfz20_0 := blk_frozen BK119.out 0
             have hfz20_1 := blk_frozen BK119.out 1
             have p121 : 0 ≤ (x8_1 : Int) := of_decide_eq_true (by first | (with_reducible assumption) | assumption)
             have q121 : x8_1 < (l0_1.length : Int) := of_decide_eq_true (by first | (with_reducible assumption) | assumption)
             obtain ⟨ad121, e121, hx121_0, hx121_1, hx121_2⟩ := at_T36 HR0_1.out x8_1 p121 q121
             cases e121
             replace hx121_0 := (HB.out.cell (World.block_lt_of_cell? w _ hx121_0)).trans hx121_0
             replace hx121_1 := (HB.out.cell (World.block_lt_of_cell? w _ hx121_1)).trans hx121_1
             replace hx121_2 := (HB.out.cell (World.block_lt_of_cell? w _ hx121_2)).trans hx121_2
             replace p121 := eq_true p121
             replace q121 := eq_true q121
             have p122 : 0 ≤ (((rd_T36 l0_1 x8_1).f0) : Int) := of_decide_eq_true (by first | (with_reducible assumption) | assumption)
             have q122 : ((rd_T36 l0_1 x8_1).f0) < (l1.length : Int) := of_decide_eq_true (by first | (with_reducible assumption) | assumption)
             obtain ⟨ad122, e122, hx122_0⟩ := Kd.at_bool HR1.out ((rd_T36 l0_1 x8_1).f0) p122 q122
             (try rw [← Nbq14.out] at hx122_0)
             (try rw [← Nbq18.out] at hx122_0)
             cases e122
             replace hx122_0 := (HB.out.cell (World.block_lt_of_cell? w _ hx122_0)).trans hx122_0
             replace p122 := eq_true p122
             replace q122 := eq_true q122
             have p123 : 0 ≤ (x8_1 : Int) := of_decide_eq_true (by first | (with_reducible assumption) | assumption)
             have q123 : x8_1 < (l0_1.length : Int) := of_decide_eq_true (by first | (with_reducible assumption) | assumption)
             obtain ⟨ad123, e123, hx123_0, hx123_1, hx123_2⟩ := at_T36 HR0_1.out x8_1 p123 q123
             obtain rfl : ad121 = ad123 := (by injection e123)
             replace hx123_0 := (HB.out.cell (World.block_lt_of_cell? w _ hx123_0)).trans hx123_0
             replace hx123_1 := (HB.out.cell (World.block_lt_of_cell? w _ hx123_1)).trans hx123_1
             replace hx123_2 := (HB.out.cell (World.block_lt_of_cell? w _ hx123_2)).trans hx123_2
             replace p123 := eq_true p123
             replace q123 := eq_true q123
             have p124 : 0 ≤ (((rd_T36 l0_1 x8_1).f1) : Int) := of_decide_eq_true (by first | (with_reducible assumption) | assumption)
             have q124 : ((rd_T36 l0_1 x8_1).f1) < (l1.length : Int) := of_decide_eq_true (by first | (with_reducible assumption) | assumption)
             obtain ⟨ad124, e124, hx124_0⟩ := Kd.at_bool HR1.out ((rd_T36 l0_1 x8_1).f1) p124 q124
             (try rw [← Nbq14.out] at hx124_0)
             (try rw [← Nbq18.out] at hx124_0)
             obtain rfl : ad122 = ad124 := (by injection e124)
             replace hx124_0 := (HB.out.cell (World.block_lt_of_cell? w _ hx124_0)).trans hx124_0
             replace p124 := eq_true p124
             replace q124 := eq_true q124
             go_wp2
             go_roundg k1
             case measure => have := HK1.out; omega
             case rel => exact ⟨(x7_1), (wrap64 (x8_1 + 1)), (by first | rfl | (simp; done) | (simp [*]; done)), (by first | rfl | (simp; done) | (simp [*]; done)), H', ⟨by have := HK1.out; omega⟩, ⟨by (with_reducible repeat (first | refine blk_drewN ?_ _ | refine blk_drew ?_ | refine blk_alloc ?_ _)); exact BK119.out⟩, ⟨by repeat (first | (with_reducible first | exact HB.out | apply below_alloc | apply pw_below_drewN | apply below_drew1 | refine below_set ?_ GE119.out) | exact HB.out)⟩⟩
            ·replace c19 := Bool.eq_false_iff.mpr c19
             subst c19
             have H1 : (codewrightref51_Cut.l0 k1 l1 (wrap64 (x7_1 + ((rd_T36 l0_1 x8_1).f2))) (wrap64 (x8_1 + 1)) a0_0 l0_1) = some (r1, r2) := by rw [if_neg (show ¬ (false = true) by decide)] at H; exact H
             clear H
             have H := H1
             clear H1
             have H' := Aside0.mk H
             clear H
             have hcz21_0 : wr.cell? ⟨gb119, 0, none⟩ = some (.int .i64 a0_0) := (blk_cell BK119.out 0).trans rfl
             have hcz21_1 : wr.cell? ⟨gb119, 1, none⟩ = some (.slice A0_1 l0_1.length c0_1) := (blk_cell BK119.out 1).trans rfl
             have hfz21_0 := blk_frozen BK119.out 0
             have hfz21_1 := blk_frozen BK119.out 1
             have p121 : 0 ≤ (x8_1 : Int) := of_decide_eq_true (by first | (with_reducible assumption) | assumption)
             have q121 : x8_1 < (l0_1.length : Int) := of_decide_eq_true (by first | (with_reducible assumption) | assumption)
             obtain ⟨ad121, e121, hx121_0, hx121_1, hx121_2⟩ := at_T36 HR0_1.out x8_1 p121 q121
             cases e121
             replace hx121_0 := (HB.out.cell (World.block_lt_of_cell? w _ hx121_0)).trans hx121_0
             replace hx121_1 := (HB.out.cell (World.block_lt_of_cell? w _ hx121_1)).trans hx121_1
             replace hx121_2 := (HB.out.cell (World.block_lt_of_cell? w _ hx121_2)).trans hx121_2
             replace p121 := eq_true p121
             replace q121 := eq_true q121
             have p122 : 0 ≤ (((rd_T36 l0_1 x8_1).f0) : Int) := of_decide_eq_true (by first | (with_reducible assumption) | assumption)
             have q122 : ((rd_T36 l0_1 x8_1).f0) < (l1.length : Int) := of_decide_eq_true (by first | (with_reducible assumption) | assumption)
             obtain ⟨ad122, e122, hx122_0⟩ := Kd.at_bool HR1.out ((rd_T36 l0_1 x8_1).f0) p122 q122
             (try rw [← Nbq14.out] at hx122_0)
             (try rw [← Nbq18.out] at hx122_0)
             cases e122
             replace hx122_0 := (HB.out.cell (World.block_lt_of_cell? w _ hx122_0)).trans hx122_0
             replace p122 := eq_true p122
             replace q122 := eq_true q122
             have p123 : 0 ≤ (x8_1 : Int) := of_decide_eq_true (by first | (with_reducible assumption) | assumption)
             have q123 : x8_1 < (l0_1.length : Int) := of_decide_eq_true (by first | (with_reducible assumption) | assumption)
             obtain ⟨ad123, e123, hx123_0, hx123_1, hx123_2⟩ := at_T36 HR0_1.out x8_1 p123 q123
             obtain rfl : ad121 = ad123 := (by injection e123)
             replace hx123_0 := (HB.out.cell (World.block_lt_of_cell? w _ hx123_0)).trans hx123_0
             replace hx123_1 := (HB.out.cell (World.block_lt_of_cell? w _ hx123_1)).trans hx123_1
             replace hx123_2 := (HB.out.cell (World.block_lt_of_cell? w _ hx123_2)).trans hx123_2
             replace p123 := eq_true p123
             replace q123 := eq_true q123
             have p124 : 0 ≤ (((rd_T36 l0_1 x8_1).f1) : Int) := of_decide_eq_true (by first | (with_reducible assumption) | assumption)
             have q124 : ((rd_T36 l0_1 x8_1).f1) < (l1.length : Int) := of_decide_eq_true (by first | (with_reducible assumption) | assumption)
             obtain ⟨ad124, e124, hx124_0⟩ := Kd.at_bool HR1.out ((rd_T36 l0_1 x8_1).f1) p124 q124
             (try rw [← Nbq14.out] at hx124_0)
             (try rw [← Nbq18.out] at hx124_0)
             obtain rfl : ad122 = ad124 := (by injection e124)
             replace hx124_0 := (HB.out.cell (World.block_lt_of_cell? w _ hx124_0)).trans hx124_0
             replace p124 := eq_true p124
             replace q124 := eq_true q124
             have p125 : 0 ≤ (x8_1 : Int) := of_decide_eq_true (by first | (with_reducible assumption) | assumption)
             have q125 : x8_1 < (l0_1.length : Int) := of_decide_eq_true (by first | (with_reducible assumption) | assumption)
             obtain ⟨ad125, e125, hx125_0, hx125_1, hx125_2⟩ := at_T36 HR0_1.out x8_1 p125 q125
             obtain rfl : ad121 = ad125 := (by injection e125)
             replace hx125_0 := (HB.out.cell (World.block_lt_of_cell? w _ hx125_0)).trans hx125_0
             replace hx125_1 := (HB.out.cell (World.block_lt_of_cell? w _ hx125_1)).trans hx125_1
             replace hx125_2 := (HB.out.cell (World.block_lt_of_cell? w _ hx125_2)).trans hx125_2
             replace p125 := eq_true p125
             replace q125 := eq_true q125
             go_wp2
             go_roundg k1
             case measure => have := HK1.out; omega
             case rel => exact ⟨(wrap64 (x7_1 + ((rd_T36 l0_1 x8_1).f2))), (wrap64 (x8_1 + 1)), (by first | rfl | (simp; done) | (simp [*]; done)), (by first | rfl | (simp; done) | (simp [*]; done)), H', ⟨by have := HK1.out; omega⟩, ⟨by (with_reducible repeat (first | refine blk_drewN ?_ _ | refine blk_drew ?_ | refine blk_alloc ?_ _)); exact BK119.out⟩, ⟨by repeat (first | (with_reducible first | exact HB.out | apply below_alloc | apply pw_below_drewN | apply below_drew1 | refine below_set ?_ GE119.out) | exact HB.out)⟩⟩
           ·rw [if_neg c17] at H
            exact absurd H (by simp)
          ·rw [if_neg c16] at H
           exact absurd H (by simp)
         ·replace c15 := Bool.eq_false_iff.mpr c15
          subst c15
          have H1 : (codewrightref51_Cut.l0 k1 l1 x7_1 (wrap64 (x8_1 + 1)) a0_0 l0_1) = some (r1, r2) := by rw [if_neg (show ¬ (false = true) by decide)] at H; exact H
          clear H
          have H := H1
          clear H1
          have H' := Aside0.mk H
          clear H
          have hcz22_0 : wr.cell? ⟨gb119, 0, none⟩ = some (.int .i64 a0_0) := (blk_cell BK119.out 0).trans rfl
          have hcz22_1 : wr.cell? ⟨gb119, 1, none⟩ = some (.slice A0_1 l0_1.length c0_1) := (blk_cell BK119.out 1).trans rfl
          have hfz22_0 := blk_frozen BK119.out 0
          have hfz22_1 := blk_frozen BK119.out 1
          have p121 : 0 ≤ (x8_1 : Int) := of_decide_eq_true (by first | (with_reducible assumption) | assumption)
          have q121 : x8_1 < (l0_1.length : Int) := of_decide_eq_true (by first | (with_reducible assumption) | assumption)
          obtain ⟨ad121, e121, hx121_0, hx121_1, hx121_2⟩ := at_T36 HR0_1.out x8_1 p121 q121
          cases e121
          replace hx121_0 := (HB.out.cell (World.block_lt_of_cell? w _ hx121_0)).trans hx121_0
          replace hx121_1 := (HB.out.cell (World.block_lt_of_cell? w _ hx121_1)).trans hx121_1
          replace hx121_2 := (HB.out.cell (World.block_lt_of_cell? w _ hx121_2)).trans hx121_2
          replace p121 := eq_true p121
          replace q121 := eq_true q121
          have p122 : 0 ≤ (((rd_T36 l0_1 x8_1).f0) : Int) := of_decide_eq_true (by first | (with_reducible assumption) | assumption)
          have q122 : ((rd_T36 l0_1 x8_1).f0) < (l1.length : Int) := of_decide_eq_true (by first | (with_reducible assumption) | assumption)
          obtain ⟨ad122, e122, hx122_0⟩ := Kd.at_bool HR1.out ((rd_T36 l0_1 x8_1).f0) p122 q122
          (try rw [← Nbq14.out] at hx122_0)
          cases e122
          replace hx122_0 := (HB.out.cell (World.block_lt_of_cell? w _ hx122_0)).trans hx122_0
          replace p122 := eq_true p122
          replace q122 := eq_true q122
          go_wp2
          go_roundg k1
          case measure => have := HK1.out; omega
          case rel => exact ⟨(x7_1), (wrap64 (x8_1 + 1)), (by first | rfl | (simp; done) | (simp [*]; done)), (by first | rfl | (simp; done) | (simp [*]; done)), H', ⟨by have := HK1.out; omega⟩, ⟨by (with_reducible repeat (first | refine blk_drewN ?_ _ | refine blk_drew ?_ | refine blk_alloc ?_ _)); exact BK119.out⟩, ⟨by repeat (first | (with_reducible first | exact HB.out | apply below_alloc | apply pw_below_drewN | apply below_drew1 | refine below_set ?_ GE119.out) | exact HB.out)⟩⟩
        ·rw [if_neg c13] at H
         exact absurd H (by simp)
       ·rw [if_neg c12] at H
        exact absurd H (by simp)
      ·rw [if_neg c11] at H
       exact absurd H (by simp)
     ·rw [if_neg c10] at H
      have c10b0 : decide (x8_1 < (l0_1.length : Int)) = false := decide_eq_false c10
      clear c10
      simp only [Option.some.injEq, Prod.mk.injEq] at H
      obtain ⟨rfl, rfl⟩ := H
      have hcz23_0 : wr.cell? ⟨gb119, 0, none⟩ = some (.int .i64 a0_0) := (blk_cell BK119.out 0).trans rfl
      have hcz23_1 : wr.cell? ⟨gb119, 1, none⟩ = some (.slice A0_1 l0_1.length c0_1) := (blk_cell BK119.out 1).trans rfl
      have hfz23_0 := blk_frozen BK119.out 0
      have hfz23_1 := blk_frozen BK119.out 1
      go_wp2
      go_ret2
      exact ⟨by first | rfl | (simp [errW_none, errW_some] <;> rfl) | (simp [*, errW_none, errW_some] <;> rfl), by repeat (first | (with_reducible first | exact HB.out | apply below_alloc | apply pw_below_drewN | apply below_drew1 | refine below_set ?_ GE119.out) | exact HB.out)⟩
  ·rw [if_neg c5] at H
   have c5b0 : ((l1.length : Int) == a0_0) = false := beq_eq_false_iff_ne.mpr c5
   have c5b1 : ((l1.length : Int) != a0_0) = true := bne_iff_ne.mpr c5
   simp only [Option.some.injEq, Prod.mk.injEq] at H
   obtain ⟨rfl, rfl⟩ := H
   go_enter Try.func17, Try.ntmps17
   go_wp2_with (first | ((with_reducible refine gate_dst (N := 2) rfl ?_); refine box_event ?hg (N := 2) ?hd (cs := #[.int .i64 a0_0, .slice A0_1 l0_1.length c0_1]) (t := 24) ?hr ?_; (case hd => rfl); (case hg => rfl); (case hr => first | (go_simp; done) | (go_simp; rfl)); intro gb119 hg w24 hbox hb; have n0_ := Aside0.mk (below_step (by repeat (first | (with_reducible first | exact HB.out | apply below_alloc | apply pw_below_drewN | apply below_drew1) | exact HB.out)) hb); have n1_ := Aside0.mk (hbox); have n2_ := Aside0.mk ((by rw [hg]; exact (below_size (by repeat (first | (with_reducible first | exact HB.out | apply below_alloc | apply pw_below_drewN | apply below_drew1) | exact HB.out))) : w.heap.size ≤ gb119)); have n3_ := Aside0.mk ((by rw [hg]; exact (below_size (by repeat (first | (with_reducible first | exact HB.out | apply below_alloc | apply pw_below_drewN | apply below_drew1) | exact HB.out))) : w.heap.size ≤ gb119)); clear HB; have HB := n0_; have BK119 := n1_; have GW119 := n2_; have GE119 := n3_; clear n0_ n1_ n2_ n3_; clear hb hbox hg; have hcz25_0 : w24.cell? ⟨gb119, 0, none⟩ = some (.int .i64 a0_0) := (blk_cell BK119.out 0).trans rfl; have hcz25_1 : w24.cell? ⟨gb119, 1, none⟩ = some (.slice A0_1 l0_1.length c0_1) := (blk_cell BK119.out 1).trans rfl; have hfz25_0 := blk_frozen BK119.out 0; have hfz25_1 := blk_frozen BK119.out 1) | ((with_reducible refine gate_callee (f := 15) rfl ?_); refine goesL_ (some 10) rfl rfl Try.func15 (by kernel_rfl) rfl #[.agg #[.int .i64 a0_0, .slice A0_1 l0_1.length c0_1]] rfl (by (try simp only [List.map_toArray, List.map_cons, List.map_nil]); first | done | rfl | (simp only [List.length_drop, List.length_take]; rfl)) ?_; (with_reducible refine (codewrightref51_Check.calls k a0_0 _ _ l0_1 t120 _ ?side1 ?side2 A3.out).mono ?_); (case side1 => repeat (first | exact (Kd.C_below HR0_1.out HB.out) | (with_reducible refine Kd.C_alloc ?_ _) | (with_reducible refine Kd.C_drewN ?_ _) | (with_reducible refine Kd.C_drew ?_))); (case side2 => exact HC0_1.out); rintro e w26 ⟨rfl, hb⟩; refine ⟨_, rfl, ?_⟩; have n0_ := Aside0.mk (blk_below (g := gb119) (o := .cells #[.int .i64 a0_0, .slice A0_1 l0_1.length c0_1] 24 (0, 0)) (by (with_reducible repeat (first | refine blk_drewN ?_ _ | refine blk_drew ?_ | refine blk_alloc ?_ _)); exact BK119.out) hb); have n1_ := Aside0.mk (below_step (by repeat (first | (with_reducible first | exact HB.out | apply below_alloc | apply pw_below_drewN | apply below_drew1 | refine below_set ?_ GE119.out) | exact HB.out)) hb); clear BK119; clear HB; have BK119 := n0_; have HB := n1_; clear n0_ n1_; (try clear hb); (try clear hb2); (try clear hk); (try clear hi); have hcz27_0 : w26.cell? ⟨gb119, 0, none⟩ = some (.int .i64 a0_0) := (blk_cell BK119.out 0).trans rfl; have hcz27_1 : w26.cell? ⟨gb119, 1, none⟩ = some (.slice A0_1 l0_1.length c0_1) := (blk_cell BK119.out 1).trans rfl; have hfz27_0 := blk_frozen BK119.out 0; have hfz27_1 := blk_frozen BK119.out 1))
   go_ret2
   exact ⟨by first | rfl | (simp [errW_none, errW_some] <;> rfl) | (simp [*, errW_none, errW_some] <;> rfl), by repeat (first | (with_reducible first | exact HB.out | apply below_alloc | apply pw_below_drewN | apply below_drew1 | refine below_set ?_ GE119.out) | exact HB.out)⟩
 ·rw [if_neg c4] at H
  have c4b0 : (t120 == 0) = false := beq_eq_false_iff_ne.mpr c4
  have c4b1 : (t120 != 0) = true := bne_iff_ne.mpr c4
  simp only [Option.some.injEq, Prod.mk.injEq] at H
  obtain ⟨rfl, rfl⟩ := H
  go_enter Try.func17, Try.ntmps17
  go_wp2_with (first | ((with_reducible refine gate_dst (N := 2) rfl ?_); refine box_event ?hg (N := 2) ?hd (cs := #[.int .i64 a0_0, .slice A0_1 l0_1.length c0_1]) (t := 24) ?hr ?_; (case hd => rfl); (case hg => rfl); (case hr => first | (go_simp; done) | (go_simp; rfl)); intro gb119 hg w28 hbox hb; have n0_ := Aside0.mk (below_step (by repeat (first | (with_reducible first | exact HB.out | apply below_alloc | apply pw_below_drewN | apply below_drew1) | exact HB.out)) hb); have n1_ := Aside0.mk (hbox); have n2_ := Aside0.mk ((by rw [hg]; exact (below_size (by repeat (first | (with_reducible first | exact HB.out | apply below_alloc | apply pw_below_drewN | apply below_drew1) | exact HB.out))) : w.heap.size ≤ gb119)); have n3_ := Aside0.mk ((by rw [hg]; exact (below_size (by repeat (first | (with_reducible first | exact HB.out | apply below_alloc | apply pw_below_drewN | apply below_drew1) | exact HB.out))) : w.heap.size ≤ gb119)); clear HB; have HB := n0_; have BK119 := n1_; have GW119 := n2_; have GE119 := n3_; clear n0_ n1_ n2_ n3_; clear hb hbox hg; have hcz29_0 : w28.cell? ⟨gb119, 0, none⟩ = some (.int .i64 a0_0) := (blk_cell BK119.out 0).trans rfl; have hcz29_1 : w28.cell? ⟨gb119, 1, none⟩ = some (.slice A0_1 l0_1.length c0_1) := (blk_cell BK119.out 1).trans rfl; have hfz29_0 := blk_frozen BK119.out 0; have hfz29_1 := blk_frozen BK119.out 1) | ((with_reducible refine gate_callee (f := 15) rfl ?_); refine goesL_ (some 10) rfl rfl Try.func15 (by kernel_rfl) rfl #[.agg #[.int .i64 a0_0, .slice A0_1 l0_1.length c0_1]] rfl (by (try simp only [List.map_toArray, List.map_cons, List.map_nil]); first | done | rfl | (simp only [List.length_drop, List.length_take]; rfl)) ?_; (with_reducible refine (codewrightref51_Check.calls k a0_0 _ _ l0_1 t120 _ ?side1 ?side2 A3.out).mono ?_); (case side1 => repeat (first | exact (Kd.C_below HR0_1.out HB.out) | (with_reducible refine Kd.C_alloc ?_ _) | (with_reducible refine Kd.C_drewN ?_ _) | (with_reducible refine Kd.C_drew ?_))); (case side2 => exact HC0_1.out); rintro e w30 ⟨rfl, hb⟩; refine ⟨_, rfl, ?_⟩; have n0_ := Aside0.mk (blk_below (g := gb119) (o := .cells #[.int .i64 a0_0, .slice A0_1 l0_1.length c0_1] 24 (0, 0)) (by (with_reducible repeat (first | refine blk_drewN ?_ _ | refine blk_drew ?_ | refine blk_alloc ?_ _)); exact BK119.out) hb); have n1_ := Aside0.mk (below_step (by repeat (first | (with_reducible first | exact HB.out | apply below_alloc | apply pw_below_drewN | apply below_drew1 | refine below_set ?_ GE119.out) | exact HB.out)) hb); clear BK119; clear HB; have BK119 := n0_; have HB := n1_; clear n0_ n1_; (try clear hb); (try clear hb2); (try clear hk); (try clear hi)))
  go_ret2
  exact ⟨by first | rfl | (simp [errW_none, errW_some] <;> rfl) | (simp [*, errW_none, errW_some] <;> rfl), by repeat (first | (with_reducible first | exact HB.out | apply below_alloc | apply pw_below_drewN | apply below_drew1 | refine below_set ?_ GE119.out) | exact HB.out)⟩

end Go.Proofs.Ytidomjhihfoabaa.PF
