-- thin
-- printed by a program out of Lean's own print of the program (the kit's print.py, one namespace for several laws)
import Derived.Test.YtidomjhihfoabaaPFx0
namespace Go.Proofs.Ytidomjhihfoabaa.PF
open Go.RowKit Go.Proofs.YtidomjhihfoabaaW.PrintWords Go.Proofs.YtidomjhihfoabaaW.PrintLast Go.Proofs.YtidomjhihfoabaaW.PrintMore
attribute [local go_sem] max2_int min2_int max_two min_two max_three min_three max_four min_four   -- for this text's walks alone
set_option linter.unusedVariables false
set_option linter.unusedSimpArgs false

/-! ### flow_net: function 37 -/
def flow_net.l0 : Nat → List Int → List Int → List (S36) → Int → Int → Option (List Int)
 | 0, _, _, _, _, _ => none
 | k + 1, x1, x5, x12, x13, x14 => if x14 < x13 then (if 0 ≤ x14 then (if x14 < (x12.length : Int) then (if 0 ≤ ((rd_T36 x12 x14).f0) then (if ((rd_T36 x12 x14).f0) < (x5.length : Int) then (if x14 < (x1.length : Int) then ((some (x5.set (((rd_T36 x12 x14).f0) : Int).toNat (wrap64 ((rd x5 ((rd_T36 x12 x14).f0)) + (rd x1 x14))) : List Int)).bind fun y148 => (if 0 ≤ ((rd_T36 x12 x14).f1) then (if ((rd_T36 x12 x14).f1) < (x5.length : Int) then (flow_net.l0 k x1 (y148.set (((rd_T36 x12 x14).f1) : Int).toNat (wrap64 ((rd y148 ((rd_T36 x12 x14).f1)) - (rd x1 x14)))) x12 x13 (wrap64 (x14 + 1))) else (none)) else (none))) else (none)) else (none)) else (none)) else (none)) else (none)) else (some x5)
def flow_net.f (k : Nat) (a0_0 : Int) (l0_1 : List (S36)) (l1 : List Int) : Option (List Int) := if 0 ≤ a0_0 then (if (a0_0 : Int).toNat ≤ 35184372088832 then (flow_net.l0 k l1 (List.replicate (a0_0 : Int).toNat 0) l0_1 (l0_1.length : Int) 0) else (none)) else (none)
theorem flow_net.mono_l : ∀ k, (∀ y0 y1 y2 y3 y4, LeO (flow_net.l0 k y0 y1 y2 y3 y4) (flow_net.l0 (k + 1) y0 y1 y2 y3 y4))
 | 0 => fun _ _ _ _ _ r h => by simp [flow_net.l0] at h
 | k + 1 => by
  have ih0 := flow_net.mono_l k
  ·intro y0 y1 y2 y3 y4
   unfold flow_net.l0
   repeat' first
   | (with_reducible exact ih0 _ _ _ _ _)
   | (with_reducible exact LeO.refl _)
   | (with_reducible exact LeO.none _)
   | (with_reducible refine LeO.ite ?_ ?_)
   | (with_reducible refine LeO.bind ?_ (fun _ => ?_))
   | exact ih0 _ _ _ _ _
   | exact LeO.none _
   | refine LeO.ite ?_ ?_
   | refine LeO.bind ?_ (fun _ => ?_)
theorem flow_net.mono : ∀ a0 a1 a2 k, LeO (flow_net.f k a0 a1 a2) (flow_net.f (k + 1) a0 a1 a2) := by
 intro a0 a1 a2 k
 have ih0 := flow_net.mono_l k
 unfold flow_net.f
 repeat' first
   | (with_reducible exact ih0 _ _ _ _ _)
   | (with_reducible exact LeO.refl _)
   | (with_reducible exact LeO.none _)
   | (with_reducible refine LeO.ite ?_ ?_)
   | (with_reducible refine LeO.bind ?_ (fun _ => ?_))
   | exact ih0 _ _ _ _ _
   | exact LeO.none _
   | refine LeO.ite ?_ ?_
   | refine LeO.bind ?_ (fun _ => ?_)
def flow_net.T5 : Bool × List (List Nat × List Nat) := (true, [([], []), ([], []), ([1], [1]), ([0, 2], [0, 2]), ([3], [3]), ([], []), ([], []), ([5, 6], [5, 6]), ([7], [7]), ([4, 8], [4, 8]), ([0, 2, 0, 1, 2, 3, 4, 5, 6, 7, 8, 9], [0, 2]), ([10, 9, 0, 1, 2, 3, 4, 5, 6, 7, 8, 9], [9, 10])])
def flow_net.B5 : List Nat := [0, 0, 2, 7, 15, 0, 0, 96, 224, 511, 1023, 2047]
theorem flow_net.tab5 : rtab .any (opsOf Try.f37 5) = flow_net.T5 := by kernel_rfl
theorem flow_net.bits5 : waitsOk flow_net.T5.2 flow_net.B5 = true := by kernel_rfl
def flow_net.T6 : Bool × List (List Nat × List Nat) := (true, [([], []), ([], []), ([1], [1]), ([0, 2], [0, 2]), ([3], [3]), ([], []), ([], []), ([5, 6], [5, 6]), ([7], [7]), ([4, 8], [4, 8]), ([0, 2, 0, 1, 2, 3, 4, 5, 6, 7, 8, 9], [0, 2]), ([10, 9, 0, 1, 2, 3, 4, 5, 6, 7, 8, 9], [9, 10])])
def flow_net.B6 : List Nat := [0, 0, 2, 7, 15, 0, 0, 96, 224, 511, 1023, 2047]
theorem flow_net.tab6 : rtab .any (opsOf Try.f37 6) = flow_net.T6 := by kernel_rfl
theorem flow_net.bits6 : waitsOk flow_net.T6.2 flow_net.B6 = true := by kernel_rfl
set_option maxHeartbeats 8000000 in
set_option maxRecDepth 100000 in
theorem flow_net.calls (k : Nat) (a0_0 : Int) (A0_1 : Option Addr) (c0_1 : Nat) (l0_1 : List (S36)) (A1 : Option Addr) (c1 : Nat) (l1 : List Int) (r : List Int) (w : World) (hr0_1 : Kd.C k36 w A0_1 l0_1.length l0_1) (hc0_1 : l0_1.length ≤ c0_1) (hr1 : Kd.C (Kd.int .i64) w A1 l1.length l1) (hc1 : l1.length ≤ c1) (h : flow_net.f k a0_0 l0_1 l1 = some r) :
  Calls Try.prog 37 #[.agg #[.int .i64 a0_0, .slice A0_1 l0_1.length c0_1], .slice A1 l1.length c1] w fun e w' => ∃ v0_ : Value, e = .returned (v0_) ∧ Kd.R (Kd.int .i64) 3 w' w.heap.size (fun _ => True) v0_ r ∧ Below w.heap.size w w' := by
 have hu24 := Try.underlying24
 have hu36 := Try.underlying36
 have HR0_1 := Aside0.mk hr0_1
 have HC0_1 := Aside0.mk hc0_1
 clear hr0_1 hc0_1
 have HR1 := Aside0.mk hr1
 have HC1 := Aside0.mk hc1
 clear hr1 hc1
 have HB := Aside0.mk (Below.refl w.heap.size w)
 have H : (if 0 ≤ a0_0 then (if (a0_0 : Int).toNat ≤ 35184372088832 then (flow_net.l0 k l1 (List.replicate (a0_0 : Int).toNat 0) l0_1 (l0_1.length : Int) 0) else (none)) else (none)) = some r := h
 clear h
 by_cases c3 : 0 ≤ a0_0
 ·rw [if_pos c3] at H
  have c3b0 := eq_true c3
  have c3b1 : decide (0 ≤ a0_0) = true := decide_eq_true c3
  clear c3
  by_cases c4 : (a0_0 : Int).toNat ≤ 35184372088832
  ·rw [if_pos c4] at H
   have c4b0 := eq_true c4
   have c4b1 : decide ((a0_0 : Int).toNat ≤ 35184372088832) = true := decide_eq_true c4
   clear c4
   obtain ⟨y141, hy141⟩ : ∃ y_ : List Int, y_ = (List.replicate (a0_0 : Int).toNat 0) := ⟨_, rfl⟩
   replace H : (flow_net.l0 k l1 y141 l0_1 (l0_1.length : Int) 0) = some r := by first | (rw [hy141]; with_reducible exact H) | (have H2_ := (Option.bind_some _ _).symm.trans H; rw [hy141]; with_reducible exact H2_) | (have H2_ := (Option.bind_some _ _).symm.trans H; with_reducible exact H2_) | with_reducible exact H | (rw [hy141]; exact H) | exact H
   have Ny141 := Aside0.mk hy141
   clear hy141
   have H' := Aside0.mk H
   clear H
   go_enter Try.func37, Try.ntmps37
   go_wp2_with (first | ((with_reducible refine gate_dst (N := 2) rfl ?_); refine box_event ?hg (N := 2) ?hd (cs := #[.int .i64 a0_0, .slice A0_1 l0_1.length c0_1]) (t := 24) ?hr ?_; (case hd => rfl); (case hg => rfl); (case hr => first | (go_simp; done) | (go_simp; rfl)); intro gb140 hg w5 hbox hb; have n0_ := Aside0.mk (below_step (by repeat (first | (with_reducible first | exact HB.out | apply below_alloc | apply pw_below_drewN | apply below_drew1) | exact HB.out)) hb); have n1_ := Aside0.mk (hbox); have n2_ := Aside0.mk ((by rw [hg]; exact (below_size (by repeat (first | (with_reducible first | exact HB.out | apply below_alloc | apply pw_below_drewN | apply below_drew1) | exact HB.out))) : w.heap.size ≤ gb140)); have n3_ := Aside0.mk ((by rw [hg]; exact (below_size (by repeat (first | (with_reducible first | exact HB.out | apply below_alloc | apply pw_below_drewN | apply below_drew1) | exact HB.out))) : w.heap.size ≤ gb140)); clear HB; have HB := n0_; have BK140 := n1_; have GW140 := n2_; have GE140 := n3_; clear n0_ n1_ n2_ n3_; clear hb hbox hg; have hcz6_0 : w5.cell? ⟨gb140, 0, none⟩ = some (.int .i64 a0_0) := (blk_cell BK140.out 0).trans rfl; have hcz6_1 : w5.cell? ⟨gb140, 1, none⟩ = some (.slice A0_1 l0_1.length c0_1) := (blk_cell BK140.out 1).trans rfl; have hfz6_0 := blk_frozen BK140.out 0; have hfz6_1 := blk_frozen BK140.out 1) | ((with_reducible refine gate_dst (N := 10) rfl ?_); refine Kd.R_make (Kd.int .i64) _ 3 rfl (N := 10) rfl 33 _ _ rfl a0_0 rfl rfl Try.underlying33 (.int .i64 0) 8 info3 rfl (by decide) (by omega) 0 (ok := fun _ => True) (okp := fun _ => True) rfl (fun _ hk => hk) trivial (of_decide_eq_true (by first | (with_reducible assumption) | assumption)) (Nat.le_trans (Nat.mul_le_mul_right _ (of_decide_eq_true (by first | (with_reducible assumption) | assumption) : a0_0.toNat ≤ 35184372088832)) (by omega)) (Below.refl _ _) (Nat.le_refl _) ?_; intro v142 w7 ho8 hb hg_ hnew_; clear hg_ hnew_; (first | rw [← Ny141.out] at ho8 | (simp only [Int.reduceToNat] at ho8; rw [← Ny141.out] at ho8)); have n0_ := Aside0.mk (Kd.R_lower ho8 (below_size (by repeat (first | (with_reducible first | exact HB.out | apply below_alloc | apply pw_below_drewN | apply below_drew1 | refine below_set ?_ GE140.out) | exact HB.out)))); have n1_ := Aside0.mk (blk_below (g := gb140) (o := .cells #[.int .i64 a0_0, .slice A0_1 l0_1.length c0_1] 24 (0, 0)) (by (with_reducible repeat (first | refine blk_drewN ?_ _ | refine blk_drew ?_ | refine blk_alloc ?_ _)); exact BK140.out) hb); have n2_ := Aside0.mk (below_step (by repeat (first | (with_reducible first | exact HB.out | apply below_alloc | apply pw_below_drewN | apply below_drew1 | refine below_set ?_ GE140.out) | exact HB.out)) hb); clear BK140; clear HB; have HO143 := n0_; have BK140 := n1_; have HB := n2_; clear n0_ n1_ n2_; clear hb ho8; have hcz9_0 : w7.cell? ⟨gb140, 0, none⟩ = some (.int .i64 a0_0) := (blk_cell BK140.out 0).trans rfl; have hcz9_1 : w7.cell? ⟨gb140, 1, none⟩ = some (.slice A0_1 l0_1.length c0_1) := (blk_cell BK140.out 1).trans rfl; have hfz9_0 := blk_frozen BK140.out 0; have hfz9_1 := blk_frozen BK140.out 1))
   go_loopg [14] k (fun kq v14 w' => ∃ (x5_1 : List Int) (x14_1 : Int), v14 = .int .i64 x14_1 ∧ Aside0 (flow_net.l0 kq l1 x5_1 l0_1 (l0_1.length : Int) x14_1 = some r) ∧ Aside0 (kq ≤ k) ∧ Aside0 (Kd.R (Kd.int .i64) 3 w' w.heap.size (fun _ => True) v142 x5_1) ∧ Aside0 (w'.heap[gb140]? = some (.cells #[.int .i64 a0_0, (.slice A0_1 l0_1.length c0_1)] 24 (0, 0))) ∧ Aside0 (Below w.heap.size w w'))
   case atStart => exact ⟨(y141), (0), (by first | rfl | (simp; done) | (simp [*]; done)), H', ⟨Nat.le_refl _⟩, ⟨by (with_reducible repeat (first | apply Kd.R_alloc | apply Kd.R_drewN | apply Kd.R_drew)); exact HO143.out⟩, ⟨by (with_reducible repeat (first | refine blk_drewN ?_ _ | refine blk_drew ?_ | refine blk_alloc ?_ _)); exact BK140.out⟩, ⟨by repeat (first | (with_reducible first | exact HB.out | apply below_alloc | apply pw_below_drewN | apply below_drew1 | refine below_set ?_ GE140.out) | exact HB.out)⟩⟩
   case round =>
    clear H'
    try clear c1
    try clear p2
    try clear c3
    try clear c3b0
    try clear c3b1
    try clear c4
    try clear c4b0
    try clear c4b1
    try clear hcz6_0
    try clear hcz6_1
    try clear hcz9_0
    try clear hcz9_1
    try clear hfz6_0
    try clear hfz6_1
    try clear hfz9_0
    try clear hfz9_1
    obtain ⟨x5_1, x14_1, rfl, HA, HK1, HO_5, BK140, HB⟩ := hrel
    cases gk with
    | zero => exact absurd HA.out (by simp [flow_net.l0])
    | succ k1 =>
     have H := HA.out
     clear HA
     simp only [flow_net.l0] at H
     by_cases c10 : x14_1 < (l0_1.length : Int)
     ·rw [if_pos c10] at H
      have c10b0 : decide (x14_1 < (l0_1.length : Int)) = true := decide_eq_true c10
      clear c10
      by_cases c11 : 0 ≤ x14_1
      ·rw [if_pos c11] at H
       have c11b0 : decide (0 ≤ x14_1) = true := decide_eq_true c11
       clear c11
       by_cases c12 : x14_1 < (l0_1.length : Int)
       ·rw [if_pos c12] at H
        have c12b0 : decide (x14_1 < (l0_1.length : Int)) = true := decide_eq_true c12
        clear c12
        by_cases c13 : 0 ≤ ((rd_T36 l0_1 x14_1).f0)
        ·rw [if_pos c13] at H
         have c13b0 : decide (0 ≤ ((rd_T36 l0_1 x14_1).f0)) = true := decide_eq_true c13
         clear c13
         by_cases c14 : ((rd_T36 l0_1 x14_1).f0) < (x5_1.length : Int)
         ·rw [if_pos c14] at H
          have c14b0 : decide (((rd_T36 l0_1 x14_1).f0) < (x5_1.length : Int)) = true := decide_eq_true c14
          clear c14
          by_cases c15 : x14_1 < (l1.length : Int)
          ·rw [if_pos c15] at H
           have c15b0 : decide (x14_1 < (l1.length : Int)) = true := decide_eq_true c15
           clear c15
           obtain ⟨y148, hy148⟩ : ∃ y_ : List Int, y_ = (x5_1.set (((rd_T36 l0_1 x14_1).f0) : Int).toNat (wrap64 ((rd x5_1 ((rd_T36 l0_1 x14_1).f0)) + (rd l1 x14_1)))) := ⟨_, rfl⟩
           replace H : (if 0 ≤ ((rd_T36 l0_1 x14_1).f1) then (if ((rd_T36 l0_1 x14_1).f1) < (x5_1.length : Int) then (flow_net.l0 k1 l1 (y148.set (((rd_T36 l0_1 x14_1).f1) : Int).toNat (wrap64 ((rd y148 ((rd_T36 l0_1 x14_1).f1)) - (rd l1 x14_1)))) l0_1 (l0_1.length : Int) (wrap64 (x14_1 + 1))) else (none)) else (none)) = some r := by first | (rw [hy148]; with_reducible exact H) | (have H2_ := (Option.bind_some _ _).symm.trans H; rw [hy148]; with_reducible exact H2_) | (have H2_ := (Option.bind_some _ _).symm.trans H; with_reducible exact H2_) | with_reducible exact H | (rw [hy148]; exact H) | exact H
           have Ny148 := Aside0.mk hy148
           clear hy148
           by_cases c17 : 0 ≤ ((rd_T36 l0_1 x14_1).f1)
           ·rw [if_pos c17] at H
            have c17b0 : decide (0 ≤ ((rd_T36 l0_1 x14_1).f1)) = true := decide_eq_true c17
            clear c17
            by_cases c18 : ((rd_T36 l0_1 x14_1).f1) < (x5_1.length : Int)
            ·rw [if_pos c18] at H
             have c18b0 : decide (((rd_T36 l0_1 x14_1).f1) < (x5_1.length : Int)) = true := decide_eq_true c18
             clear c18
             obtain ⟨y151, hy151⟩ : ∃ y_ : List Int, y_ = (y148.set (((rd_T36 l0_1 x14_1).f1) : Int).toNat (wrap64 ((rd y148 ((rd_T36 l0_1 x14_1).f1)) - (rd l1 x14_1)))) := ⟨_, rfl⟩
             replace H : (flow_net.l0 k1 l1 y151 l0_1 (l0_1.length : Int) (wrap64 (x14_1 + 1))) = some r := by first | (rw [hy151]; with_reducible exact H) | (have H2_ := (Option.bind_some _ _).symm.trans H; rw [hy151]; with_reducible exact H2_) | (have H2_ := (Option.bind_some _ _).symm.trans H; with_reducible exact H2_) | with_reducible exact H | (rw [hy151]; exact H) | exact H
             have Ny151 := Aside0.mk hy151
             clear hy151
             have H' := Aside0.mk H
             clear H
             have p144 : 0 ≤ (x14_1 : Int) := of_decide_eq_true (by first | (with_reducible assumption) | assumption)
             have q144 : x14_1 < (l0_1.length : Int) := of_decide_eq_true (by first | (with_reducible assumption) | assumption)
             obtain ⟨ad144, e144, hx144_0, hx144_1, hx144_2⟩ := at_T36 HR0_1.out x14_1 p144 q144
             cases e144
             replace hx144_0 := (HB.out.cell (World.block_lt_of_cell? w _ hx144_0)).trans hx144_0
             replace hx144_1 := (HB.out.cell (World.block_lt_of_cell? w _ hx144_1)).trans hx144_1
             replace hx144_2 := (HB.out.cell (World.block_lt_of_cell? w _ hx144_2)).trans hx144_2
             replace p144 := eq_true p144
             replace q144 := eq_true q144
             try go_wp2_with (first | ((with_reducible refine gate_dst (N := 7) rfl ?_); refine box_event ?hg (N := 7) ?hd (cs := #[.int .i64 0, .int .i64 0, .int .i64 0]) (t := 36) ?hr ?_; (case hd => rfl); (case hg => rfl); (case hr => first | (go_simp; done) | (go_simp; rfl)); intro gb145 hg w20 hbox hb; have n0_ := Aside0.mk (Kd.R_below (by (with_reducible repeat (first | apply Kd.R_alloc | apply Kd.R_drewN | apply Kd.R_drew)); exact HO_5.out) hb); have n1_ := Aside0.mk (blk_below (g := gb140) (o := .cells #[.int .i64 a0_0, .slice (some ad144) l0_1.length c0_1] 24 (0, 0)) (by (with_reducible repeat (first | refine blk_drewN ?_ _ | refine blk_drew ?_ | refine blk_alloc ?_ _)); exact BK140.out) hb); have n2_ := Aside0.mk (below_step (by repeat (first | (with_reducible first | exact HB.out | apply below_alloc | apply pw_below_drewN | apply below_drew1 | refine below_set ?_ GE140.out) | exact HB.out)) hb); have n3_ := Aside0.mk (hbox); have n4_ := Aside0.mk ((by rw [hg]; exact (below_size (by repeat (first | (with_reducible first | exact HB.out | apply below_alloc | apply pw_below_drewN | apply below_drew1 | refine below_set ?_ GE140.out) | exact HB.out))) : w.heap.size ≤ gb145)); have n5_ := Aside0.mk ((by rw [hg]; exact (below_size (by repeat (first | (with_reducible first | exact HB.out | apply below_alloc | apply pw_below_drewN | apply below_drew1 | refine below_set ?_ GE140.out) | exact HB.out))) : w.heap.size ≤ gb145)); have n6_ := Aside0.mk ((by rw [hg]; exact Nat.ne_of_lt (blk_lt (g := gb140) (o := .cells #[.int .i64 a0_0, .slice (some ad144) l0_1.length c0_1] 24 (0, 0)) (by (with_reducible repeat (first | refine blk_drewN ?_ _ | refine blk_drew ?_ | refine blk_alloc ?_ _)); exact BK140.out)) : gb140 ≠ gb145)); have n7_ := Aside0.mk ((by rw [hg]; exact Nat.ne_of_gt (blk_lt (g := gb140) (o := .cells #[.int .i64 a0_0, .slice (some ad144) l0_1.length c0_1] 24 (0, 0)) (by (with_reducible repeat (first | refine blk_drewN ?_ _ | refine blk_drew ?_ | refine blk_alloc ?_ _)); exact BK140.out)) : gb145 ≠ gb140)); clear HO_5; clear BK140; clear HB; have HO_5 := n0_; have BK140 := n1_; have HB := n2_; have BK145 := n3_; have GW145 := n4_; have GE145 := n5_; have NB140_145 := n6_; have NB145_140 := n7_; clear n0_ n1_ n2_ n3_ n4_ n5_ n6_ n7_; clear hb hbox hg; have hnb21 := NB145_140.out; have hnc21 := NB140_145.out; have hcz22_0 : w20.cell? ⟨gb145, 0, none⟩ = some (.int .i64 0) := (blk_cell BK145.out 0).trans rfl; have hcz22_1 : w20.cell? ⟨gb145, 1, none⟩ = some (.int .i64 0) := (blk_cell BK145.out 1).trans rfl; have hcz22_2 : w20.cell? ⟨gb145, 2, none⟩ = some (.int .i64 0) := (blk_cell BK145.out 2).trans rfl; have hfz22_0 := blk_frozen BK145.out 0; have hfz22_1 := blk_frozen BK145.out 1; have hfz22_2 := blk_frozen BK145.out 2))
             have n0_ : Aside0 (Kd.R (Kd.int .i64) 3 (((w20.setCell ⟨gb145, 0, none⟩ (.int .i64 ((rd_T36 l0_1 x14_1).f0))).setCell ⟨gb145, 1, none⟩ (.int .i64 ((rd_T36 l0_1 x14_1).f1))).setCell ⟨gb145, 2, none⟩ (.int .i64 ((rd_T36 l0_1 x14_1).f2))) w.heap.size (fun _ => True) v142 x5_1) := ⟨by (with_reducible repeat (first | apply Kd.R_alloc | apply Kd.R_drewN | apply Kd.R_drew)); exact Kd.R_mono (Kd.R_far (p := ⟨gb145, 2, none⟩) (Kd.R_far (p := ⟨gb145, 1, none⟩) (Kd.R_far (p := ⟨gb145, 0, none⟩) (Kd.R_types HO_5.out BK145.out (by decide)) (fun _ hk => hk.2) (.int .i64 ((rd_T36 l0_1 x14_1).f0))) (fun _ hk => hk.2) (.int .i64 ((rd_T36 l0_1 x14_1).f1))) (fun _ hk => hk.2) (.int .i64 ((rd_T36 l0_1 x14_1).f2))) (fun _ hk => trivial)⟩
             have n1_ : Aside0 ((((w20.setCell ⟨gb145, 0, none⟩ (.int .i64 ((rd_T36 l0_1 x14_1).f0))).setCell ⟨gb145, 1, none⟩ (.int .i64 ((rd_T36 l0_1 x14_1).f1))).setCell ⟨gb145, 2, none⟩ (.int .i64 ((rd_T36 l0_1 x14_1).f2))).heap[gb140]? = some (.cells #[.int .i64 a0_0, .slice (some ad144) l0_1.length c0_1] 24 (0, 0))) := ⟨by (with_reducible repeat (first | refine blk_drewN ?_ _ | refine blk_drew ?_ | refine blk_alloc ?_ _)); refine blk_far ?_ NB140_145.out _; (with_reducible repeat (first | refine blk_drewN ?_ _ | refine blk_drew ?_ | refine blk_alloc ?_ _)); refine blk_far ?_ NB140_145.out _; (with_reducible repeat (first | refine blk_drewN ?_ _ | refine blk_drew ?_ | refine blk_alloc ?_ _)); refine blk_far ?_ NB140_145.out _; (with_reducible repeat (first | refine blk_drewN ?_ _ | refine blk_drew ?_ | refine blk_alloc ?_ _)); exact BK140.out⟩
             have n2_ : Aside0 ((((w20.setCell ⟨gb145, 0, none⟩ (.int .i64 ((rd_T36 l0_1 x14_1).f0))).setCell ⟨gb145, 1, none⟩ (.int .i64 ((rd_T36 l0_1 x14_1).f1))).setCell ⟨gb145, 2, none⟩ (.int .i64 ((rd_T36 l0_1 x14_1).f2))).heap[gb145]? = some (.cells #[.int .i64 ((rd_T36 l0_1 x14_1).f0), .int .i64 ((rd_T36 l0_1 x14_1).f1), .int .i64 ((rd_T36 l0_1 x14_1).f2)] 36 (0, 0))) := ⟨by (with_reducible repeat (first | refine blk_drewN ?_ _ | refine blk_drew ?_ | refine blk_alloc ?_ _)); refine blk_put (cs := #[.int .i64 ((rd_T36 l0_1 x14_1).f0), .int .i64 ((rd_T36 l0_1 x14_1).f1), .int .i64 0]) ?_ 2 _ rfl; (with_reducible repeat (first | refine blk_drewN ?_ _ | refine blk_drew ?_ | refine blk_alloc ?_ _)); refine blk_put (cs := #[.int .i64 ((rd_T36 l0_1 x14_1).f0), .int .i64 0, .int .i64 0]) ?_ 1 _ rfl; (with_reducible repeat (first | refine blk_drewN ?_ _ | refine blk_drew ?_ | refine blk_alloc ?_ _)); refine blk_put (cs := #[.int .i64 0, .int .i64 0, .int .i64 0]) ?_ 0 _ rfl; (with_reducible repeat (first | refine blk_drewN ?_ _ | refine blk_drew ?_ | refine blk_alloc ?_ _)); exact BK145.out⟩
             have n3_ : Aside0 (Below w.heap.size w (((w20.setCell ⟨gb145, 0, none⟩ (.int .i64 ((rd_T36 l0_1 x14_1).f0))).setCell ⟨gb145, 1, none⟩ (.int .i64 ((rd_T36 l0_1 x14_1).f1))).setCell ⟨gb145, 2, none⟩ (.int .i64 ((rd_T36 l0_1 x14_1).f2)))) := ⟨by repeat (first | (with_reducible first | exact HB.out | apply below_alloc | apply pw_below_drewN | apply below_drew1 | refine below_set ?_ GE140.out | refine below_set ?_ GE145.out) | exact HB.out)⟩
             (try clear HO_5)
             (try clear BK140)
             (try clear BK145)
             (try clear HB)
             generalize (((w20.setCell ⟨gb145, 0, none⟩ (.int .i64 ((rd_T36 l0_1 x14_1).f0))).setCell ⟨gb145, 1, none⟩ (.int .i64 ((rd_T36 l0_1 x14_1).f1))).setCell ⟨gb145, 2, none⟩ (.int .i64 ((rd_T36 l0_1 x14_1).f2))) = w23 at n0_ n1_ n2_ n3_ ⊢
             have HO_5 := n0_
             have BK140 := n1_
             have BK145 := n2_
             have HB := n3_
             clear n0_ n1_ n2_ n3_
             have n0_ := Aside0.mk (Kd.R_drew HO_5.out)
             have n1_ := Aside0.mk (blk_drew BK140.out)
             have n2_ := Aside0.mk (blk_drew BK145.out)
             have n3_ := Aside0.mk (below_drew1 HB.out)
             clear HO_5
             clear BK140
             clear BK145
             clear HB
             have HO_5 := n0_
             have BK140 := n1_
             have BK145 := n2_
             have HB := n3_
             clear n0_ n1_ n2_ n3_
             obtain ⟨Ao25, co25, eo25⟩ := Kd.R_slice HO_5.out
             (first | subst eo25 | (injection eo25 with f1_ f2_ f3_; have f4_ := f1_.symm; have f5_ := f3_.symm; clear f1_ f2_ f3_; subst f4_; subst f5_))
             have p146 : 0 ≤ (((rd_T36 l0_1 x14_1).f0) : Int) := of_decide_eq_true (by first | (with_reducible assumption) | assumption)
             have q146 : ((rd_T36 l0_1 x14_1).f0) < (x5_1.length : Int) := of_decide_eq_true (by first | (with_reducible assumption) | assumption)
             obtain ⟨ad146, e146, hx146_0⟩ := Kd.at_int (Kd.R_reads' HO_5.out).2.2 ((rd_T36 l0_1 x14_1).f0) p146 q146
             cases e146
             replace p146 := eq_true p146
             replace q146 := eq_true q146
             have p147 : 0 ≤ (x14_1 : Int) := of_decide_eq_true (by first | (with_reducible assumption) | assumption)
             have q147 : x14_1 < (l1.length : Int) := of_decide_eq_true (by first | (with_reducible assumption) | assumption)
             obtain ⟨ad147, e147, hx147_0⟩ := Kd.at_int HR1.out x14_1 p147 q147
             have hw147_0 := hx147_0
             cases e147
             replace hx147_0 := (HB.out.cell (World.block_lt_of_cell? w _ hx147_0)).trans hx147_0
             replace p147 := eq_true p147
             replace q147 := eq_true q147
             have p16 : 0 ≤ (((rd_T36 l0_1 x14_1).f0) : Int) := of_decide_eq_true (by first | (with_reducible assumption) | assumption)
             have q16 : (((rd_T36 l0_1 x14_1).f0) : Int) < ((x5_1.length : Int) : Int) := of_decide_eq_true (by first | (with_reducible assumption) | assumption)
             obtain ⟨go16, co16, eo16, gb16, gl16, cl16, HG16⟩ := Kd.R_form HO_5.out (by omega)
             (first | cases eo16 | (injection eo16 with ea_ en_ ec_; (first | subst ea_ | (injection ea_ with ea_; subst ea_)); subst ec_; clear en_))
             have GB16 := Aside0.mk gb16
             have GG16 := Aside0.mk HG16
             clear gb16 gl16 HG16
             (first | simp only [add_plain] at hx146_0 | skip)
             obtain ⟨hx16_0, hf16_0⟩ := Kd.R_celln 0 HO_5.out (((rd_T36 l0_1 x14_1).f0) : Int) p16 q16
             replace p16 := eq_true p16
             replace q16 := eq_true q16
             have HP26 := Kd.R_putn HO_5.out (((rd_T36 l0_1 x14_1).f0) : Int) (wrap64 ((rd x5_1 ((rd_T36 l0_1 x14_1).f0)) + (rd l1 x14_1)))
             rw [← Ny148.out] at HP26
             have HQ26 := Aside0.mk HP26
             clear HP26
             refine start_ (n := 12) (S := fun w' => w'.cell? ⟨gb145, 0, none⟩ = some (.int .i64 ((rd_T36 l0_1 x14_1).f0)) ∧ w'.cell? ⟨gb145, 1, none⟩ = some (.int .i64 ((rd_T36 l0_1 x14_1).f1)) ∧ w'.cell? ⟨gb145, 2, none⟩ = some (.int .i64 ((rd_T36 l0_1 x14_1).f2)) ∧ w'.cell? ⟨go16, (((rd_T36 l0_1 x14_1).f0)).toNat, none⟩ = some (.int .i64 (rd x5_1 ((rd_T36 l0_1 x14_1).f0))) ∧ w'.cell? (ad147.add (x14_1).toNat) = some (.int .i64 (rd l1 x14_1))) (ds := [11]) #[false, false, false, false, false, false, false, false, false, false, false, false] (by kernel_rfl) rfl rfl ⟨(blk_cell BK145.out 0).trans rfl, (blk_cell BK145.out 1).trans rfl, (blk_cell BK145.out 2).trans rfl, hx146_0, ((HB.out.cell (World.block_lt_of_cell? w _ hw147_0)).trans hw147_0)⟩ (fun hHeld => ?_); refine with_tabW flow_net.tab5 flow_net.bits5 (fun HT_ HW_ => ?_)
             generalize w23.drew = w24 at HO_5 BK140 BK145 HB GG16 HQ26 hf16_0 hx146_0 hx147_0 hx16_0 hHeld ⊢
             refine pure_ (i := 0) (N := some 19) (v := ?_) (a' := ?_) #[true, false, false, false, false, false, false, false, false, false, false, false] rfl rfl (any_of HT_.out (by kernel_rfl)) (fun _ _ _ h => h) (Or.inl ⟨by rfl, ?_⟩) ?_ ?_
             rotate_left
             ·intro w'
              go_simp
              with_reducible rfl
             rotate_left
             ·simp only [Act.put, List.setIfInBounds_toArray, List.set_cons_zero, List.set_cons_succ, i64_w, i32_w]
              rfl
             refine pure_ (i := 1) (N := some 20) (v := ?_) (a' := ?_) #[true, true, false, false, false, false, false, false, false, false, false, false] rfl rfl (any_of HT_.out (by kernel_rfl)) (fun _ _ _ h => h) (Or.inl ⟨by rfl, ?_⟩) ?_ ?_
             rotate_left
             ·intro w'
              go_simp
              with_reducible rfl
             rotate_left
             ·simp only [Act.put, List.setIfInBounds_toArray, List.set_cons_zero, List.set_cons_succ, i64_w, i32_w]
              rfl
             refine pure_ (i := 5) (N := some 24) (v := ?_) (a' := ?_) #[true, true, false, false, false, true, false, false, false, false, false, false] rfl rfl (any_of HT_.out (by kernel_rfl)) (fun _ _ _ h => h) (Or.inl ⟨by rfl, ?_⟩) ?_ ?_
             rotate_left
             ·intro w'
              go_simp
              with_reducible rfl
             rotate_left
             ·simp only [Act.put, List.setIfInBounds_toArray, List.set_cons_zero, List.set_cons_succ, i64_w, i32_w]
              rfl
             refine pure_ (i := 6) (N := some 25) (v := ?_) (a' := ?_) #[true, true, false, false, false, true, true, false, false, false, false, false] rfl rfl (any_of HT_.out (by kernel_rfl)) (fun _ _ _ h => h) (Or.inl ⟨by rfl, ?_⟩) ?_ ?_
             rotate_left
             ·intro w'
              go_simp
              with_reducible rfl
             rotate_left
             ·simp only [Act.put, List.setIfInBounds_toArray, List.set_cons_zero, List.set_cons_succ, i64_w, i32_w]
              rfl
             refine pure_ (i := 7) (N := some 26) (v := ?_) (a' := ?_) #[true, true, false, false, false, true, true, true, false, false, false, false] rfl rfl (any_of HT_.out (by kernel_rfl)) (fun _ _ _ h => h) (Or.inl ⟨by rfl, ?_⟩) ?_ ?_
             rotate_left
             ·intro w'
              go_simp
              with_reducible rfl
             rotate_left
             ·simp only [Act.put, List.setIfInBounds_toArray, List.set_cons_zero, List.set_cons_succ, i64_w, i32_w]
              rfl
             refine take_ (i := 2) (N := some 21) (v := ?_) (a' := ?_) #[true, true, true, false, false, true, true, true, false, false, false, false] rfl rfl (take_ofW HT_.out HW_.out (by kernel_rfl)) (fun _ _ _ h => h) (Or.inl ⟨by rfl, ?_⟩) hHeld ?_ ?_
             rotate_left
             ·rintro w' ⟨s0, s1, s2, s3, s4⟩
              go_simp
              with_reducible rfl
             rotate_left
             ·simp only [Act.put, List.setIfInBounds_toArray, List.set_cons_zero, List.set_cons_succ, i64_w, i32_w]
              rfl
             refine pure_ (i := 3) (N := some 22) (v := ?_) (a' := ?_) #[true, true, true, true, false, true, true, true, false, false, false, false] rfl rfl (any_of HT_.out (by kernel_rfl)) (fun _ _ _ h => h) (Or.inl ⟨by rfl, ?_⟩) ?_ ?_
             rotate_left
             ·intro w'
              go_simp
              with_reducible rfl
             rotate_left
             ·simp only [Act.put, List.setIfInBounds_toArray, List.set_cons_zero, List.set_cons_succ, i64_w, i32_w]
              rfl
             refine take_ (i := 4) (N := some 23) (v := ?_) (a' := ?_) #[true, true, true, true, true, true, true, true, false, false, false, false] rfl rfl (take_ofW HT_.out HW_.out (by kernel_rfl)) (fun _ _ _ h => h) (Or.inl ⟨by rfl, ?_⟩) hHeld ?_ ?_
             rotate_left
             ·rintro w' ⟨s0, s1, s2, s3, s4⟩
              go_simp
              with_reducible rfl
             rotate_left
             ·simp only [Act.put, List.setIfInBounds_toArray, List.set_cons_zero, List.set_cons_succ, i64_w, i32_w]
              rfl
             refine take_ (i := 8) (N := some 27) (v := ?_) (a' := ?_) #[true, true, true, true, true, true, true, true, true, false, false, false] rfl rfl (take_ofW HT_.out HW_.out (by kernel_rfl)) (fun _ _ _ h => h) (Or.inl ⟨by rfl, ?_⟩) hHeld ?_ ?_
             rotate_left
             ·rintro w' ⟨s0, s1, s2, s3, s4⟩
              go_simp
              with_reducible rfl
             rotate_left
             ·simp only [Act.put, List.setIfInBounds_toArray, List.set_cons_zero, List.set_cons_succ, i64_w, i32_w]
              rfl
             refine pure_ (i := 9) (N := some 28) (v := ?_) (a' := ?_) #[true, true, true, true, true, true, true, true, true, true, false, false] rfl rfl (any_of HT_.out (by kernel_rfl)) (fun _ _ _ h => h) (Or.inl ⟨by rfl, ?_⟩) ?_ ?_
             rotate_left
             ·intro w'
              go_simp
              with_reducible rfl
             rotate_left
             ·simp only [Act.put, List.setIfInBounds_toArray, List.set_cons_zero, List.set_cons_succ, i64_w, i32_w]
              rfl
             refine pure_ (i := 10) (N := some 29) (v := ?_) (a' := ?_) #[true, true, true, true, true, true, true, true, true, true, true, false] rfl rfl (any_of HT_.out (by kernel_rfl)) (fun _ _ _ h => h) (Or.inl ⟨by rfl, ?_⟩) ?_ ?_
             rotate_left
             ·intro w'
              go_simp
              with_reducible rfl
             rotate_left
             ·simp only [Act.put, List.setIfInBounds_toArray, List.set_cons_zero, List.set_cons_succ, i64_w, i32_w]
              rfl
             refine last_ (i := 11) (N := none) #[true, true, true, true, true, true, true, true, true, true, true, true] rfl rfl (one_of HT_.out (by kernel_rfl)) (by decide) (fun K hK => ?_)
             refine skip_ (w1 := ?_) (by rfl) rfl ?_ ?_
             rotate_left
             ·go_simp
              rfl
             refine hK.out _ _ ?_
             clear hK K
             refine done_ (done_of HT_.out (by kernel_rfl)) ?_
             try go_wp2
             have n0_ : Aside0 (Kd.R (Kd.int .i64) 3 (w24.setCell ⟨go16, (((rd_T36 l0_1 x14_1).f0) : Int).toNat, none⟩ (.int .i64 (wrap64 ((rd x5_1 ((rd_T36 l0_1 x14_1).f0)) + (rd l1 x14_1))))) w.heap.size (fun _ => True) (.slice (some ⟨go16, 0, none⟩) x5_1.length co25) y148) := ⟨by (with_reducible repeat (first | apply Kd.R_alloc | apply Kd.R_drewN | apply Kd.R_drew)); exact HQ26.out⟩
             have n1_ : Aside0 ((w24.setCell ⟨go16, (((rd_T36 l0_1 x14_1).f0) : Int).toNat, none⟩ (.int .i64 (wrap64 ((rd x5_1 ((rd_T36 l0_1 x14_1).f0)) + (rd l1 x14_1))))).heap[gb140]? = some (.cells #[.int .i64 a0_0, .slice (some ad144) l0_1.length c0_1] 24 (0, 0))) := ⟨by (with_reducible repeat (first | refine blk_drewN ?_ _ | refine blk_drew ?_ | refine blk_alloc ?_ _)); refine blk_far ?_ (by have h_ := Kd.R_ne HO_5.out BK140.out (by decide); intro e_; exact h_ (by rw [e_]; rfl)) _; (with_reducible repeat (first | refine blk_drewN ?_ _ | refine blk_drew ?_ | refine blk_alloc ?_ _)); exact BK140.out⟩
             have n2_ : Aside0 ((w24.setCell ⟨go16, (((rd_T36 l0_1 x14_1).f0) : Int).toNat, none⟩ (.int .i64 (wrap64 ((rd x5_1 ((rd_T36 l0_1 x14_1).f0)) + (rd l1 x14_1))))).heap[gb145]? = some (.cells #[.int .i64 ((rd_T36 l0_1 x14_1).f0), .int .i64 ((rd_T36 l0_1 x14_1).f1), .int .i64 ((rd_T36 l0_1 x14_1).f2)] 36 (0, 0))) := ⟨by (with_reducible repeat (first | refine blk_drewN ?_ _ | refine blk_drew ?_ | refine blk_alloc ?_ _)); refine blk_far ?_ (by have h_ := Kd.R_ne HO_5.out BK145.out (by decide); intro e_; exact h_ (by rw [e_]; rfl)) _; (with_reducible repeat (first | refine blk_drewN ?_ _ | refine blk_drew ?_ | refine blk_alloc ?_ _)); exact BK145.out⟩
             have n3_ : Aside0 (Below w.heap.size w (w24.setCell ⟨go16, (((rd_T36 l0_1 x14_1).f0) : Int).toNat, none⟩ (.int .i64 (wrap64 ((rd x5_1 ((rd_T36 l0_1 x14_1).f0)) + (rd l1 x14_1)))))) := ⟨by repeat (first | (with_reducible first | exact HB.out | apply below_alloc | apply pw_below_drewN | apply below_drew1 | refine below_set ?_ GB16.out | refine below_set ?_ GE140.out | refine below_set ?_ GE145.out) | exact HB.out)⟩
             (try clear HO_5)
             (try clear BK140)
             (try clear BK145)
             (try clear HB)
             generalize (w24.setCell ⟨go16, (((rd_T36 l0_1 x14_1).f0) : Int).toNat, none⟩ (.int .i64 (wrap64 ((rd x5_1 ((rd_T36 l0_1 x14_1).f0)) + (rd l1 x14_1))))) = w27 at n0_ n1_ n2_ n3_ ⊢
             have HO_5 := n0_
             have BK140 := n1_
             have BK145 := n2_
             have HB := n3_
             clear n0_ n1_ n2_ n3_
             have n0_ := Aside0.mk (Kd.R_drew HO_5.out)
             have n1_ := Aside0.mk (blk_drew BK140.out)
             have n2_ := Aside0.mk (blk_drew BK145.out)
             have n3_ := Aside0.mk (below_drew1 HB.out)
             clear HO_5
             clear BK140
             clear BK145
             clear HB
             have HO_5 := n0_
             have BK140 := n1_
             have BK145 := n2_
             have HB := n3_
             clear n0_ n1_ n2_ n3_
             have p149 : 0 ≤ (((rd_T36 l0_1 x14_1).f1) : Int) := of_decide_eq_true (by first | (with_reducible assumption) | assumption)
             have q149 : ((rd_T36 l0_1 x14_1).f1) < (y148.length : Int) := (by have h_ : (((rd_T36 l0_1 x14_1).f1) : Int) < ((x5_1.length : Int) : Int) := of_decide_eq_true (by first | (with_reducible assumption) | assumption); first | (have e_ := (Kd.R_reads' HO_5.out).1; omega) | simpa only [Ny148.out, List.length_set] using h_)
             have ql149 : ((((rd_T36 l0_1 x14_1).f1) : Int) < ((x5_1.length : Int) : Int)) = True := eq_true (of_decide_eq_true (by first | (with_reducible assumption) | assumption))
             obtain ⟨ad149, e149, hx149_0⟩ := Kd.at_int (Kd.R_reads' HO_5.out).2.2 ((rd_T36 l0_1 x14_1).f1) p149 q149
             obtain rfl : (⟨go16, 0, none⟩ : Addr) = ad149 := (by injection e149)
             (first | simp only [add_plain] at hx149_0 | simp only [add_at] at hx149_0 | simp only [Addr.add, Nat.zero_add] at hx149_0 | skip)
             replace p149 := eq_true p149
             replace q149 := eq_true q149
             have p150 : 0 ≤ (x14_1 : Int) := of_decide_eq_true (by first | (with_reducible assumption) | assumption)
             have q150 : x14_1 < (l1.length : Int) := of_decide_eq_true (by first | (with_reducible assumption) | assumption)
             obtain ⟨ad150, e150, hx150_0⟩ := Kd.at_int HR1.out x14_1 p150 q150
             have hw150_0 := hx150_0
             obtain rfl : ad147 = ad150 := (by injection e150)
             replace hx150_0 := (HB.out.cell (World.block_lt_of_cell? w _ hx150_0)).trans hx150_0
             replace p150 := eq_true p150
             replace q150 := eq_true q150
             have p19 : 0 ≤ (((rd_T36 l0_1 x14_1).f1) : Int) := of_decide_eq_true (by first | (with_reducible assumption) | assumption)
             have q19 : (((rd_T36 l0_1 x14_1).f1) : Int) < ((x5_1.length : Int) : Int) := of_decide_eq_true (by first | (with_reducible assumption) | assumption)
             obtain ⟨hx19_0, hf19_0⟩ := Kd.R_celln 0 HO_5.out (((rd_T36 l0_1 x14_1).f1) : Int) p19 q19
             replace p19 := eq_true p19
             replace q19 := eq_true q19
             have HP29 := Kd.R_putn HO_5.out (((rd_T36 l0_1 x14_1).f1) : Int) (wrap64 ((rd y148 ((rd_T36 l0_1 x14_1).f1)) - (rd l1 x14_1)))
             rw [← Ny151.out] at HP29
             have HQ29 := Aside0.mk HP29
             clear HP29
             refine start_ (n := 12) (S := fun w' => w'.cell? ⟨gb145, 0, none⟩ = some (.int .i64 ((rd_T36 l0_1 x14_1).f0)) ∧ w'.cell? ⟨gb145, 1, none⟩ = some (.int .i64 ((rd_T36 l0_1 x14_1).f1)) ∧ w'.cell? ⟨gb145, 2, none⟩ = some (.int .i64 ((rd_T36 l0_1 x14_1).f2)) ∧ w'.cell? ⟨go16, (((rd_T36 l0_1 x14_1).f1)).toNat, none⟩ = some (.int .i64 (rd y148 ((rd_T36 l0_1 x14_1).f1))) ∧ w'.cell? (ad147.add (x14_1).toNat) = some (.int .i64 (rd l1 x14_1))) (ds := [11]) #[false, false, false, false, false, false, false, false, false, false, false, false] (by kernel_rfl) rfl rfl ⟨(blk_cell BK145.out 0).trans rfl, (blk_cell BK145.out 1).trans rfl, (blk_cell BK145.out 2).trans rfl, hx149_0, ((HB.out.cell (World.block_lt_of_cell? w _ hw150_0)).trans hw150_0)⟩ (fun hHeld => ?_); refine with_tabW flow_net.tab6 flow_net.bits6 (fun HT_ HW_ => ?_)
             generalize w27.drew = w28 at HO_5 BK140 BK145 HB HQ26 HQ29 hf19_0 hx149_0 hx150_0 hx19_0 hHeld ⊢
             refine pure_ (i := 0) (N := some 30) (v := ?_) (a' := ?_) #[true, false, false, false, false, false, false, false, false, false, false, false] rfl rfl (any_of HT_.out (by kernel_rfl)) (fun _ _ _ h => h) (Or.inl ⟨by rfl, ?_⟩) ?_ ?_
             rotate_left
             ·intro w'
              go_simp
              with_reducible rfl
             rotate_left
             ·simp only [Act.put, List.setIfInBounds_toArray, List.set_cons_zero, List.set_cons_succ, i64_w, i32_w]
              rfl
             refine pure_ (i := 1) (N := some 31) (v := ?_) (a' := ?_) #[true, true, false, false, false, false, false, false, false, false, false, false] rfl rfl (any_of HT_.out (by kernel_rfl)) (fun _ _ _ h => h) (Or.inl ⟨by rfl, ?_⟩) ?_ ?_
             rotate_left
             ·intro w'
              go_simp
              with_reducible rfl
             rotate_left
             ·simp only [Act.put, List.setIfInBounds_toArray, List.set_cons_zero, List.set_cons_succ, i64_w, i32_w]
              rfl
             refine pure_ (i := 5) (N := some 35) (v := ?_) (a' := ?_) #[true, true, false, false, false, true, false, false, false, false, false, false] rfl rfl (any_of HT_.out (by kernel_rfl)) (fun _ _ _ h => h) (Or.inl ⟨by rfl, ?_⟩) ?_ ?_
             rotate_left
             ·intro w'
              go_simp
              with_reducible rfl
             rotate_left
             ·simp only [Act.put, List.setIfInBounds_toArray, List.set_cons_zero, List.set_cons_succ, i64_w, i32_w]
              rfl
             refine pure_ (i := 6) (N := some 36) (v := ?_) (a' := ?_) #[true, true, false, false, false, true, true, false, false, false, false, false] rfl rfl (any_of HT_.out (by kernel_rfl)) (fun _ _ _ h => h) (Or.inl ⟨by rfl, ?_⟩) ?_ ?_
             rotate_left
             ·intro w'
              go_simp
              with_reducible rfl
             rotate_left
             ·simp only [Act.put, List.setIfInBounds_toArray, List.set_cons_zero, List.set_cons_succ, i64_w, i32_w]
              rfl
             refine pure_ (i := 7) (N := some 37) (v := ?_) (a' := ?_) #[true, true, false, false, false, true, true, true, false, false, false, false] rfl rfl (any_of HT_.out (by kernel_rfl)) (fun _ _ _ h => h) (Or.inl ⟨by rfl, ?_⟩) ?_ ?_
             rotate_left
             ·intro w'
              go_simp
              with_reducible rfl
             rotate_left
             ·simp only [Act.put, List.setIfInBounds_toArray, List.set_cons_zero, List.set_cons_succ, i64_w, i32_w]
              rfl
             refine take_ (i := 2) (N := some 32) (v := ?_) (a' := ?_) #[true, true, true, false, false, true, true, true, false, false, false, false] rfl rfl (take_ofW HT_.out HW_.out (by kernel_rfl)) (fun _ _ _ h => h) (Or.inl ⟨by rfl, ?_⟩) hHeld ?_ ?_
             rotate_left
             ·rintro w' ⟨s0, s1, s2, s3, s4⟩
              go_simp
              with_reducible rfl
             rotate_left
             ·simp only [Act.put, List.setIfInBounds_toArray, List.set_cons_zero, List.set_cons_succ, i64_w, i32_w]
              rfl
             refine pure_ (i := 3) (N := some 33) (v := ?_) (a' := ?_) #[true, true, true, true, false, true, true, true, false, false, false, false] rfl rfl (any_of HT_.out (by kernel_rfl)) (fun _ _ _ h => h) (Or.inl ⟨by rfl, ?_⟩) ?_ ?_
             rotate_left
             ·intro w'
              go_simp
              with_reducible rfl
             rotate_left
             ·simp only [Act.put, List.setIfInBounds_toArray, List.set_cons_zero, List.set_cons_succ, i64_w, i32_w]
              rfl
             refine take_ (i := 4) (N := some 34) (v := ?_) (a' := ?_) #[true, true, true, true, true, true, true, true, false, false, false, false] rfl rfl (take_ofW HT_.out HW_.out (by kernel_rfl)) (fun _ _ _ h => h) (Or.inl ⟨by rfl, ?_⟩) hHeld ?_ ?_
             rotate_left
             ·rintro w' ⟨s0, s1, s2, s3, s4⟩
              go_simp
              with_reducible rfl
             rotate_left
             ·simp only [Act.put, List.setIfInBounds_toArray, List.set_cons_zero, List.set_cons_succ, i64_w, i32_w]
              rfl
             refine take_ (i := 8) (N := some 38) (v := ?_) (a' := ?_) #[true, true, true, true, true, true, true, true, true, false, false, false] rfl rfl (take_ofW HT_.out HW_.out (by kernel_rfl)) (fun _ _ _ h => h) (Or.inl ⟨by rfl, ?_⟩) hHeld ?_ ?_
             rotate_left
             ·rintro w' ⟨s0, s1, s2, s3, s4⟩
              go_simp
              with_reducible rfl
             rotate_left
             ·simp only [Act.put, List.setIfInBounds_toArray, List.set_cons_zero, List.set_cons_succ, i64_w, i32_w]
              rfl
             refine pure_ (i := 9) (N := some 39) (v := ?_) (a' := ?_) #[true, true, true, true, true, true, true, true, true, true, false, false] rfl rfl (any_of HT_.out (by kernel_rfl)) (fun _ _ _ h => h) (Or.inl ⟨by rfl, ?_⟩) ?_ ?_
             rotate_left
             ·intro w'
              go_simp
              with_reducible rfl
             rotate_left
             ·simp only [Act.put, List.setIfInBounds_toArray, List.set_cons_zero, List.set_cons_succ, i64_w, i32_w]
              rfl
             refine pure_ (i := 10) (N := some 40) (v := ?_) (a' := ?_) #[true, true, true, true, true, true, true, true, true, true, true, false] rfl rfl (any_of HT_.out (by kernel_rfl)) (fun _ _ _ h => h) (Or.inl ⟨by rfl, ?_⟩) ?_ ?_
             rotate_left
             ·intro w'
              go_simp
              with_reducible rfl
             rotate_left
             ·simp only [Act.put, List.setIfInBounds_toArray, List.set_cons_zero, List.set_cons_succ, i64_w, i32_w]
              rfl
             refine last_ (i := 11) (N := none) #[true, true, true, true, true, true, true, true, true, true, true, true] rfl rfl (one_of HT_.out (by kernel_rfl)) (by decide) (fun K hK => ?_)
             refine skip_ (w1 := ?_) (by rfl) rfl ?_ ?_
             rotate_left
             ·go_simp
              rfl
             refine hK.out _ _ ?_
             clear hK K
             refine done_ (done_of HT_.out (by kernel_rfl)) ?_
             try go_wp2
             go_roundg k1
             case measure => have := HK1.out; omega
             case rel => exact ⟨(y151), (wrap64 (x14_1 + 1)), (by first | rfl | (simp; done) | (simp [*]; done)), H', ⟨by have := HK1.out; omega⟩, ⟨by (with_reducible repeat (first | apply Kd.R_alloc | apply Kd.R_drewN | apply Kd.R_drew)); exact HQ29.out⟩, ⟨by (with_reducible repeat (first | refine blk_drewN ?_ _ | refine blk_drew ?_ | refine blk_alloc ?_ _)); refine blk_far ?_ (by have h_ := Kd.R_ne HO_5.out BK140.out (by decide); intro e_; exact h_ (by rw [e_]; rfl)) _; (with_reducible repeat (first | refine blk_drewN ?_ _ | refine blk_drew ?_ | refine blk_alloc ?_ _)); exact BK140.out⟩, ⟨by repeat (first | (with_reducible first | exact HB.out | apply below_alloc | apply pw_below_drewN | apply below_drew1 | refine below_set ?_ GB16.out | refine below_set ?_ GE140.out | refine below_set ?_ GE145.out) | exact HB.out)⟩⟩
            ·rw [if_neg c18] at H
             exact absurd H (by simp)
           ·rw [if_neg c17] at H
            exact absurd H (by simp)
          ·rw [if_neg c15] at H
           exact absurd H (by simp)
         ·rw [if_neg c14] at H
          exact absurd H (by simp)
        ·rw [if_neg c13] at H
         exact absurd H (by simp)
       ·rw [if_neg c12] at H
        exact absurd H (by simp)
      ·rw [if_neg c11] at H
       exact absurd H (by simp)
     ·rw [if_neg c10] at H
      have c10b0 : decide (x14_1 < (l0_1.length : Int)) = false := decide_eq_false c10
      clear c10
      obtain rfl := Option.some.inj H
      go_wp2
      go_ret
      exact ⟨_, by first | rfl | (simp [errW_none, errW_some] <;> rfl) | (simp [*, errW_none, errW_some] <;> rfl), by (with_reducible repeat (first | apply Kd.R_alloc | apply Kd.R_drewN | apply Kd.R_drew)); exact HO_5.out, by repeat (first | (with_reducible first | exact HB.out | apply below_alloc | apply pw_below_drewN | apply below_drew1 | refine below_set ?_ GE140.out) | exact HB.out)⟩
  ·rw [if_neg c4] at H
   exact absurd H (by simp)
 ·rw [if_neg c3] at H
  exact absurd H (by simp)

end Go.Proofs.Ytidomjhihfoabaa.PF
