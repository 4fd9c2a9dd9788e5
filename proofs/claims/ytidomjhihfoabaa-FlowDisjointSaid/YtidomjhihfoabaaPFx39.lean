-- thin
-- printed by a program out of Lean's own print of the program (the kit's print.py, one namespace for several laws)
import Derived.Test.YtidomjhihfoabaaPFx0
import Derived.Test.YtidomjhihfoabaaPFx34
import Derived.Test.YtidomjhihfoabaaPFx37
namespace Go.Proofs.Ytidomjhihfoabaa.PF
open Go.RowKit Go.Proofs.YtidomjhihfoabaaW.PrintWords Go.Proofs.YtidomjhihfoabaaW.PrintLast Go.Proofs.YtidomjhihfoabaaW.PrintMore
attribute [local go_sem] max2_int min2_int max_two min_two max_three min_three max_four min_four   -- for this text's walks alone
set_option linter.unusedVariables false
set_option linter.unusedSimpArgs false

/-! ### flow_certified: function 39 -/
mutual
def flow_certified.j0 : Nat → Int → Int → Bool → Int → List (S36) → Int → List Int → List Bool → Option (Bool)
 | 0, _, _, _, _, _, _, _, _ => none
 | k + 1, x1, x2, x42, x217000, x217001, x218000, x218001, x218002 => if x42 = true then (some false) else (flow_certified.l0 k x1 x2 x217001 (x217001.length : Int) 0 x217000 x217001 x218000 x218001 x218002)
def flow_certified.l0 : Nat → Int → Int → List (S36) → Int → Int → Int → List (S36) → Int → List Int → List Bool → Option (Bool)
 | 0, _, _, _, _, _, _, _, _, _, _ => none
 | k + 1, x1, x2, x44, x45, x46, x217000, x217001, x218000, x218001, x218002 => if x46 < x45 then (if 0 ≤ x46 then (if x46 < (x44.length : Int) then (if x46 < (x218001.length : Int) then (if (rd x218001 x46) < 0 then (some false) else (if (rd x218001 x46) > ((rd_T36 x44 x46).f2) then (some false) else (flow_certified.l0 k x1 x2 x44 x45 (wrap64 (x46 + 1)) x217000 x217001 x218000 x218001 x218002))) else (none)) else (none)) else (none)) else ((flow_net.f k x217000 x217001 x218001).bind fun t224 => (flow_certified.l1 k x1 x2 t224 (t224.length : Int) 0 x217000 x217001 x218000 x218001 x218002))
def flow_certified.l1 : Nat → Int → Int → List Int → Int → Int → Int → List (S36) → Int → List Int → List Bool → Option (Bool)
 | 0, _, _, _, _, _, _, _, _, _, _ => none
 | k + 1, x1, x2, x71, x72, x73, x217000, x217001, x218000, x218001, x218002 => if x73 < x72 then (if 0 ≤ x73 then (if x73 < (x71.length : Int) then (if x73 = x1 then (if (rd x71 x73) = x218000 then (flow_certified.l1 k x1 x2 x71 x72 (wrap64 (x73 + 1)) x217000 x217001 x218000 x218001 x218002) else (some false)) else (if x73 = x2 then (flow_certified.l1 k x1 x2 x71 x72 (wrap64 (x73 + 1)) x217000 x217001 x218000 x218001 x218002) else (if (rd x71 x73) = 0 then (flow_certified.l1 k x1 x2 x71 x72 (wrap64 (x73 + 1)) x217000 x217001 x218000 x218001 x218002) else (some false)))) else (none)) else (none)) else ((flow_capacity.f k x217000 x217001 x218002).bind fun t228 => (some (t228 == x218000)))
end
def flow_certified.f (k : Nat) (a0_0 : Int) (l0_1 : List (S36)) (a1 : Int) (a2 : Int) (a3_0 : Int) (l3_1 : List Int) (l3_2 : List Bool) : Option (Bool) := if (l3_1.length : Int) = (l0_1.length : Int) then (if (l3_2.length : Int) = a0_0 then (if 0 ≤ a1 then (if a1 < (l3_2.length : Int) then (if rdOf false l3_2 a1 = true then (if 0 ≤ a2 then (if a2 < (l3_2.length : Int) then (flow_certified.j0 k a1 a2 (rdOf false l3_2 a2) a0_0 l0_1 a3_0 l3_1 l3_2) else (none)) else (none)) else (flow_certified.j0 k a1 a2 true a0_0 l0_1 a3_0 l3_1 l3_2)) else (none)) else (none)) else (flow_certified.j0 k a1 a2 true a0_0 l0_1 a3_0 l3_1 l3_2)) else (flow_certified.j0 k a1 a2 true a0_0 l0_1 a3_0 l3_1 l3_2)
theorem flow_certified.mono_l : ∀ k, (∀ y0 y1 y2 y3 y4 y5 y6 y7, LeO (flow_certified.j0 k y0 y1 y2 y3 y4 y5 y6 y7) (flow_certified.j0 (k + 1) y0 y1 y2 y3 y4 y5 y6 y7)) ∧ (∀ y0 y1 y2 y3 y4 y5 y6 y7 y8 y9, LeO (flow_certified.l0 k y0 y1 y2 y3 y4 y5 y6 y7 y8 y9) (flow_certified.l0 (k + 1) y0 y1 y2 y3 y4 y5 y6 y7 y8 y9)) ∧ (∀ y0 y1 y2 y3 y4 y5 y6 y7 y8 y9, LeO (flow_certified.l1 k y0 y1 y2 y3 y4 y5 y6 y7 y8 y9) (flow_certified.l1 (k + 1) y0 y1 y2 y3 y4 y5 y6 y7 y8 y9))
 | 0 => ⟨fun _ _ _ _ _ _ _ _ r h => by simp [flow_certified.j0] at h, fun _ _ _ _ _ _ _ _ _ _ r h => by simp [flow_certified.l0] at h, fun _ _ _ _ _ _ _ _ _ _ r h => by simp [flow_certified.l1] at h⟩
 | k + 1 => by
  obtain ⟨ih0, ih1, ih2⟩ := flow_certified.mono_l k
  refine ⟨?_, ?_, ?_⟩
  ·intro y0 y1 y2 y3 y4 y5 y6 y7
   unfold flow_certified.j0
   repeat' first
   | (with_reducible exact ih0 _ _ _ _ _ _ _ _)
   | (with_reducible exact ih1 _ _ _ _ _ _ _ _ _ _)
   | (with_reducible exact ih2 _ _ _ _ _ _ _ _ _ _)
   | (with_reducible exact flow_capacity.mono _ _ _ _)
   | (with_reducible exact flow_net.mono _ _ _ _)
   | (with_reducible exact LeO.refl _)
   | (with_reducible exact LeO.none _)
   | (with_reducible refine LeO.ite ?_ ?_)
   | (with_reducible refine LeO.bind ?_ (fun _ => ?_))
   | exact ih0 _ _ _ _ _ _ _ _
   | exact ih1 _ _ _ _ _ _ _ _ _ _
   | exact ih2 _ _ _ _ _ _ _ _ _ _
   | exact flow_capacity.mono _ _ _ _
   | exact flow_net.mono _ _ _ _
   | exact LeO.none _
   | refine LeO.ite ?_ ?_
   | refine LeO.bind ?_ (fun _ => ?_)
  ·intro y0 y1 y2 y3 y4 y5 y6 y7 y8 y9
   unfold flow_certified.l0
   repeat' first
   | (with_reducible exact ih0 _ _ _ _ _ _ _ _)
   | (with_reducible exact ih1 _ _ _ _ _ _ _ _ _ _)
   | (with_reducible exact ih2 _ _ _ _ _ _ _ _ _ _)
   | (with_reducible exact flow_capacity.mono _ _ _ _)
   | (with_reducible exact flow_net.mono _ _ _ _)
   | (with_reducible exact LeO.refl _)
   | (with_reducible exact LeO.none _)
   | (with_reducible refine LeO.ite ?_ ?_)
   | (with_reducible refine LeO.bind ?_ (fun _ => ?_))
   | exact ih0 _ _ _ _ _ _ _ _
   | exact ih1 _ _ _ _ _ _ _ _ _ _
   | exact ih2 _ _ _ _ _ _ _ _ _ _
   | exact flow_capacity.mono _ _ _ _
   | exact flow_net.mono _ _ _ _
   | exact LeO.none _
   | refine LeO.ite ?_ ?_
   | refine LeO.bind ?_ (fun _ => ?_)
  ·intro y0 y1 y2 y3 y4 y5 y6 y7 y8 y9
   unfold flow_certified.l1
   repeat' first
   | (with_reducible exact ih0 _ _ _ _ _ _ _ _)
   | (with_reducible exact ih1 _ _ _ _ _ _ _ _ _ _)
   | (with_reducible exact ih2 _ _ _ _ _ _ _ _ _ _)
   | (with_reducible exact flow_capacity.mono _ _ _ _)
   | (with_reducible exact flow_net.mono _ _ _ _)
   | (with_reducible exact LeO.refl _)
   | (with_reducible exact LeO.none _)
   | (with_reducible refine LeO.ite ?_ ?_)
   | (with_reducible refine LeO.bind ?_ (fun _ => ?_))
   | exact ih0 _ _ _ _ _ _ _ _
   | exact ih1 _ _ _ _ _ _ _ _ _ _
   | exact ih2 _ _ _ _ _ _ _ _ _ _
   | exact flow_capacity.mono _ _ _ _
   | exact flow_net.mono _ _ _ _
   | exact LeO.none _
   | refine LeO.ite ?_ ?_
   | refine LeO.bind ?_ (fun _ => ?_)
theorem flow_certified.mono : ∀ a0 a1 a2 a3 a4 a5 a6 k, LeO (flow_certified.f k a0 a1 a2 a3 a4 a5 a6) (flow_certified.f (k + 1) a0 a1 a2 a3 a4 a5 a6) := by
 intro a0 a1 a2 a3 a4 a5 a6 k
 obtain ⟨ih0, ih1, ih2⟩ := flow_certified.mono_l k
 unfold flow_certified.f
 repeat' first
   | (with_reducible exact ih0 _ _ _ _ _ _ _ _)
   | (with_reducible exact ih1 _ _ _ _ _ _ _ _ _ _)
   | (with_reducible exact ih2 _ _ _ _ _ _ _ _ _ _)
   | (with_reducible exact flow_capacity.mono _ _ _ _)
   | (with_reducible exact flow_net.mono _ _ _ _)
   | (with_reducible exact LeO.refl _)
   | (with_reducible exact LeO.none _)
   | (with_reducible refine LeO.ite ?_ ?_)
   | (with_reducible refine LeO.bind ?_ (fun _ => ?_))
   | exact ih0 _ _ _ _ _ _ _ _
   | exact ih1 _ _ _ _ _ _ _ _ _ _
   | exact ih2 _ _ _ _ _ _ _ _ _ _
   | exact flow_capacity.mono _ _ _ _
   | exact flow_net.mono _ _ _ _
   | exact LeO.none _
   | refine LeO.ite ?_ ?_
   | refine LeO.bind ?_ (fun _ => ?_)
def flow_certified.T6 : Bool × List (List Nat × List Nat) := (true, [([], []), ([0], [0]), ([], []), ([1, 2], [1, 2]), ([3], [3]), ([4], [4]), ([5], [5]), ([6], [6]), ([7, 6], [6, 7]), ([6], [6]), ([8, 9, 6], [6, 8, 9]), ([10, 6], [6, 10]), ([6], [6]), ([12, 6], [6, 12]), ([11, 13, 6], [6, 11, 13]), ([6, 14], [6, 14])])
def flow_certified.B6 : List Nat := [0, 1, 0, 7, 15, 31, 63, 127, 255, 127, 1023, 2047, 127, 4223, 16383, 32767]
theorem flow_certified.tab6 : rtab .any (opsOf Try.f39 6) = flow_certified.T6 := by kernel_rfl
theorem flow_certified.bits6 : waitsOk flow_certified.T6.2 flow_certified.B6 = true := by kernel_rfl
def flow_certified.T15 : Bool × List (List Nat × List Nat) := (true, [([], []), ([], []), ([1], [1]), ([0, 2], [0, 2]), ([], []), ([4], [4]), ([3, 5], [3, 5]), ([6, 3, 0, 1, 2, 3, 4, 5, 6], [6])])
def flow_certified.B15 : List Nat := [0, 0, 2, 7, 0, 16, 63, 127]
theorem flow_certified.tab15 : rtab .any (opsOf Try.f39 15) = flow_certified.T15 := by kernel_rfl
theorem flow_certified.bits15 : waitsOk flow_certified.T15.2 flow_certified.B15 = true := by kernel_rfl
set_option maxHeartbeats 8000000 in
set_option maxRecDepth 100000 in
theorem flow_certified.calls (k : Nat) (a0_0 : Int) (A0_1 : Option Addr) (c0_1 : Nat) (l0_1 : List (S36)) (a1 : Int) (a2 : Int) (a3_0 : Int) (A3_1 : Option Addr) (c3_1 : Nat) (l3_1 : List Int) (A3_2 : Option Addr) (c3_2 : Nat) (l3_2 : List Bool) (r : Bool) (w : World) (hr0_1 : Kd.C k36 w A0_1 l0_1.length l0_1) (hc0_1 : l0_1.length ≤ c0_1) (hr3_1 : Kd.C (Kd.int .i64) w A3_1 l3_1.length l3_1) (hc3_1 : l3_1.length ≤ c3_1) (hr3_2 : Kd.C Kd.bool w A3_2 l3_2.length l3_2) (hc3_2 : l3_2.length ≤ c3_2) (h : flow_certified.f k a0_0 l0_1 a1 a2 a3_0 l3_1 l3_2 = some r) :
  Calls Try.prog 39 #[.agg #[.int .i64 a0_0, .slice A0_1 l0_1.length c0_1], .int .i64 a1, .int .i64 a2, .agg #[.int .i64 a3_0, .slice A3_1 l3_1.length c3_1, .slice A3_2 l3_2.length c3_2]] w fun e w' => e = .returned (.bool r) ∧ Below w.heap.size w w' := by
 have hu24 := Try.underlying24
 have hu39 := Try.underlying39
 have hu36 := Try.underlying36
 have HR0_1 := Aside0.mk hr0_1
 have HC0_1 := Aside0.mk hc0_1
 clear hr0_1 hc0_1
 have HR3_1 := Aside0.mk hr3_1
 have HC3_1 := Aside0.mk hc3_1
 clear hr3_1 hc3_1
 have HR3_2 := Aside0.mk hr3_2
 have HC3_2 := Aside0.mk hc3_2
 clear hr3_2 hc3_2
 have HB := Aside0.mk (Below.refl w.heap.size w)
 have H : (if (l3_1.length : Int) = (l0_1.length : Int) then (if (l3_2.length : Int) = a0_0 then (if 0 ≤ a1 then (if a1 < (l3_2.length : Int) then (if rdOf false l3_2 a1 = true then (if 0 ≤ a2 then (if a2 < (l3_2.length : Int) then (flow_certified.j0 k a1 a2 (rdOf false l3_2 a2) a0_0 l0_1 a3_0 l3_1 l3_2) else (none)) else (none)) else (flow_certified.j0 k a1 a2 true a0_0 l0_1 a3_0 l3_1 l3_2)) else (none)) else (none)) else (flow_certified.j0 k a1 a2 true a0_0 l0_1 a3_0 l3_1 l3_2)) else (flow_certified.j0 k a1 a2 true a0_0 l0_1 a3_0 l3_1 l3_2)) = some r := h
 clear h
 have HC5 := Aside0.mk H
 clear H
 go_enter Try.func39, Try.ntmps39
 go_upto_region 1 with (first | ((with_reducible refine gate_dst (N := 4) rfl ?_); (try (refine gate_guard (by rfl) ?_; dsimp only)); refine box_event ?hg (N := 4) ?hd (cs := #[.int .i64 a0_0, .slice A0_1 l0_1.length c0_1]) (t := 24) ?hr ?_; (case hd => rfl); (case hg => rfl); (case hr => first | (go_simp; done) | (go_simp; rfl)); intro gb216 hg w6 hbox hb; have n0_ := Aside0.mk (below_step (by repeat (first | (with_reducible first | exact HB.out | apply below_alloc | apply pw_below_drewN | apply below_drew1) | exact HB.out)) hb); have n1_ := Aside0.mk (hbox); have n2_ := Aside0.mk ((by rw [hg]; exact (below_size (by repeat (first | (with_reducible first | exact HB.out | apply below_alloc | apply pw_below_drewN | apply below_drew1) | exact HB.out))) : w.heap.size ≤ gb216)); have n3_ := Aside0.mk ((by rw [hg]; exact (below_size (by repeat (first | (with_reducible first | exact HB.out | apply below_alloc | apply pw_below_drewN | apply below_drew1) | exact HB.out))) : w.heap.size ≤ gb216)); clear HB; have HB := n0_; have BK216 := n1_; have GW216 := n2_; have GE216 := n3_; clear n0_ n1_ n2_ n3_; clear hb hbox hg) | ((with_reducible refine gate_dst (N := 7) rfl ?_); (try (refine gate_guard (by rfl) ?_; dsimp only)); refine box_event ?hg (N := 7) ?hd (cs := #[.int .i64 a3_0, .slice A3_1 l3_1.length c3_1, .slice A3_2 l3_2.length c3_2]) (t := 39) ?hr ?_; (case hd => rfl); (case hg => rfl); (case hr => first | (go_simp; done) | (go_simp; rfl)); intro gb217 hg w7 hbox hb; have n0_ := Aside0.mk (blk_below (g := gb216) (o := .cells #[.int .i64 a0_0, .slice A0_1 l0_1.length c0_1] 24 (0, 0)) (by (with_reducible repeat (first | refine blk_drewN ?_ _ | refine blk_drew ?_ | refine blk_alloc ?_ _)); exact BK216.out) hb); have n1_ := Aside0.mk (below_step (by repeat (first | (with_reducible first | exact HB.out | apply below_alloc | apply pw_below_drewN | apply below_drew1 | refine below_set ?_ GE216.out) | exact HB.out)) hb); have n2_ := Aside0.mk (hbox); have n3_ := Aside0.mk ((by rw [hg]; exact (below_size (by repeat (first | (with_reducible first | exact HB.out | apply below_alloc | apply pw_below_drewN | apply below_drew1 | refine below_set ?_ GE216.out) | exact HB.out))) : w.heap.size ≤ gb217)); have n4_ := Aside0.mk ((by rw [hg]; exact (below_size (by repeat (first | (with_reducible first | exact HB.out | apply below_alloc | apply pw_below_drewN | apply below_drew1 | refine below_set ?_ GE216.out) | exact HB.out))) : w.heap.size ≤ gb217)); have n5_ := Aside0.mk ((by rw [hg]; exact Nat.ne_of_lt (blk_lt (g := gb216) (o := .cells #[.int .i64 a0_0, .slice A0_1 l0_1.length c0_1] 24 (0, 0)) (by (with_reducible repeat (first | refine blk_drewN ?_ _ | refine blk_drew ?_ | refine blk_alloc ?_ _)); exact BK216.out)) : gb216 ≠ gb217)); have n6_ := Aside0.mk ((by rw [hg]; exact Nat.ne_of_gt (blk_lt (g := gb216) (o := .cells #[.int .i64 a0_0, .slice A0_1 l0_1.length c0_1] 24 (0, 0)) (by (with_reducible repeat (first | refine blk_drewN ?_ _ | refine blk_drew ?_ | refine blk_alloc ?_ _)); exact BK216.out)) : gb217 ≠ gb216)); clear BK216; clear HB; have BK216 := n0_; have HB := n1_; have BK217 := n2_; have GW217 := n3_; have GE217 := n4_; have NB216_217 := n5_; have NB217_216 := n6_; clear n0_ n1_ n2_ n3_ n4_ n5_ n6_; clear hb hbox hg))
 (try simp only [Act.put, List.setIfInBounds_toArray, List.set_cons_zero, List.set_cons_succ])
 go_cut [42] (fun v42 wc => ∃ (kq : Nat) (x42_4 : Bool), v42 = .bool x42_4 ∧ Aside0 (flow_certified.j0 kq a1 a2 x42_4 a0_0 l0_1 a3_0 l3_1 l3_2 = some r) ∧ Aside0 (kq ≤ k) ∧ Aside0 (wc.heap[gb216]? = some (.cells #[.int .i64 a0_0, (.slice A0_1 l0_1.length c0_1)] 24 (0, 0))) ∧ Aside0 (wc.heap[gb217]? = some (.cells #[.int .i64 a3_0, (.slice A3_1 l3_1.length c3_1), (.slice A3_2 l3_2.length c3_2)] 39 (0, 0))) ∧ Aside0 (Below w.heap.size w wc))
 case first =>
  have H := HC5.out
  clear HC5
  by_cases c8 : (l3_1.length : Int) = (l0_1.length : Int)
  ·rw [if_pos c8] at H
   have c8b0 : ((l3_1.length : Int) == (l0_1.length : Int)) = true := beq_iff_eq.mpr c8
   have c8b1 : ((l3_1.length : Int) != (l0_1.length : Int)) = false := bne_eq_false_iff_eq.mpr c8
   have c8b2 : (l3_1.length == l0_1.length) = true := by first | simpa using c8 | (simp at c8 ⊢; omega)
   clear c8
   (first | rw [c8b0] | (simp only [i64_w, i32_w]; rw [c8b0]) | skip)
   by_cases c9 : (l3_2.length : Int) = a0_0
   ·rw [if_pos c9] at H
    have c9b0 : ((l3_2.length : Int) == a0_0) = true := beq_iff_eq.mpr c9
    have c9b1 : ((l3_2.length : Int) != a0_0) = false := bne_eq_false_iff_eq.mpr c9
    clear c9
    by_cases c10 : 0 ≤ a1
    ·rw [if_pos c10] at H
     have c10b0 : decide (0 ≤ a1) = true := decide_eq_true c10
     clear c10
     by_cases c11 : a1 < (l3_2.length : Int)
     ·rw [if_pos c11] at H
      have c11b0 : decide (a1 < (l3_2.length : Int)) = true := decide_eq_true c11
      clear c11
      obtain ⟨bq12, hbq12⟩ : ∃ b_ : Bool, b_ = (rdOf false l3_2 a1) := ⟨_, rfl⟩
      replace H : (if bq12 = true then (if 0 ≤ a2 then (if a2 < (l3_2.length : Int) then (flow_certified.j0 k a1 a2 (rdOf false l3_2 a2) a0_0 l0_1 a3_0 l3_1 l3_2) else (none)) else (none)) else (flow_certified.j0 k a1 a2 true a0_0 l0_1 a3_0 l3_1 l3_2)) = some r := by rw [← hbq12] at H; exact H
      have Nbq12 := Aside0.mk hbq12
      clear hbq12
      by_cases c13 : bq12 = true
      ·subst c13
       have H1 : (if 0 ≤ a2 then (if a2 < (l3_2.length : Int) then (flow_certified.j0 k a1 a2 (rdOf false l3_2 a2) a0_0 l0_1 a3_0 l3_1 l3_2) else (none)) else (none)) = some r := by rw [if_pos rfl] at H; exact H
       clear H
       have H := H1
       clear H1
       by_cases c14 : 0 ≤ a2
       ·rw [if_pos c14] at H
        have c14b0 : decide (0 ≤ a2) = true := decide_eq_true c14
        clear c14
        by_cases c15 : a2 < (l3_2.length : Int)
        ·rw [if_pos c15] at H
         have c15b0 : decide (a2 < (l3_2.length : Int)) = true := decide_eq_true c15
         clear c15
         have H' := Aside0.mk H
         clear H
         have hnb16 := NB217_216.out
         have hnc16 := NB216_217.out
         have hcz17_0 : w7.cell? ⟨gb217, 0, none⟩ = some (.int .i64 a3_0) := (blk_cell BK217.out 0).trans rfl
         have hcz17_1 : w7.cell? ⟨gb217, 1, none⟩ = some (.slice A3_1 l3_1.length c3_1) := (blk_cell BK217.out 1).trans rfl
         have hcz17_2 : w7.cell? ⟨gb217, 2, none⟩ = some (.slice A3_2 l3_2.length c3_2) := (blk_cell BK217.out 2).trans rfl
         have hfz17_0 := blk_frozen BK217.out 0
         have hfz17_1 := blk_frozen BK217.out 1
         have hfz17_2 := blk_frozen BK217.out 2
         have hcz18_0 : w7.cell? ⟨gb216, 0, none⟩ = some (.int .i64 a0_0) := (blk_cell BK216.out 0).trans rfl
         have hcz18_1 : w7.cell? ⟨gb216, 1, none⟩ = some (.slice A0_1 l0_1.length c0_1) := (blk_cell BK216.out 1).trans rfl
         have hfz18_0 := blk_frozen BK216.out 0
         have hfz18_1 := blk_frozen BK216.out 1
         have p218 : 0 ≤ (a1 : Int) := of_decide_eq_true (by first | (with_reducible assumption) | assumption)
         have q218 : a1 < (l3_2.length : Int) := of_decide_eq_true (by first | (with_reducible assumption) | assumption)
         obtain ⟨ad218, e218, hx218_0⟩ := Kd.at_bool HR3_2.out a1 p218 q218
         (try rw [← Nbq12.out] at hx218_0)
         cases e218
         replace hx218_0 := (HB.out.cell (World.block_lt_of_cell? w _ hx218_0)).trans hx218_0
         replace p218 := eq_true p218
         replace q218 := eq_true q218
         have p219 : 0 ≤ (a2 : Int) := of_decide_eq_true (by first | (with_reducible assumption) | assumption)
         have q219 : a2 < (l3_2.length : Int) := of_decide_eq_true (by first | (with_reducible assumption) | assumption)
         obtain ⟨ad219, e219, hx219_0⟩ := Kd.at_bool HR3_2.out a2 p219 q219
         (try rw [← Nbq12.out] at hx219_0)
         obtain rfl : ad218 = ad219 := (by injection e219)
         replace hx219_0 := (HB.out.cell (World.block_lt_of_cell? w _ hx219_0)).trans hx219_0
         replace p219 := eq_true p219
         replace q219 := eq_true q219
         go_wp2
         go_meet
         case rel => exact ⟨_, (rdOf false l3_2 a2), (by first | rfl | (simp; done) | (simp [*]; done)), H', ⟨by first | omega | exact Nat.le_refl _⟩, ⟨by (with_reducible repeat (first | refine blk_drewN ?_ _ | refine blk_drew ?_ | refine blk_alloc ?_ _)); exact BK216.out⟩, ⟨by (with_reducible repeat (first | refine blk_drewN ?_ _ | refine blk_drew ?_ | refine blk_alloc ?_ _)); exact BK217.out⟩, ⟨by repeat (first | (with_reducible first | exact HB.out | apply below_alloc | apply pw_below_drewN | apply below_drew1 | refine below_set ?_ GE216.out | refine below_set ?_ GE217.out) | exact HB.out)⟩⟩
        ·rw [if_neg c15] at H
         exact absurd H (by simp)
       ·rw [if_neg c14] at H
        exact absurd H (by simp)
      ·replace c13 := Bool.eq_false_iff.mpr c13
       subst c13
       have H1 : (flow_certified.j0 k a1 a2 true a0_0 l0_1 a3_0 l3_1 l3_2) = some r := by rw [if_neg (show ¬ (false = true) by decide)] at H; exact H
       clear H
       have H := H1
       clear H1
       have H' := Aside0.mk H
       clear H
       have hnb19 := NB217_216.out
       have hnc19 := NB216_217.out
       have hcz20_0 : w7.cell? ⟨gb217, 0, none⟩ = some (.int .i64 a3_0) := (blk_cell BK217.out 0).trans rfl
       have hcz20_1 : w7.cell? ⟨gb217, 1, none⟩ = some (.slice A3_1 l3_1.length c3_1) := (blk_cell BK217.out 1).trans rfl
       have hcz20_2 : w7.cell? ⟨gb217, 2, none⟩ = some (.slice A3_2 l3_2.length c3_2) := (blk_cell BK217.out 2).trans rfl
       have hfz20_0 := blk_frozen BK217.out 0
       have hfz20_1 := blk_frozen BK217.out 1
       have hfz20_2 := blk_frozen BK217.out 2
       have hcz21_0 : w7.cell? ⟨gb216, 0, none⟩ = some (.int .i64 a0_0) := (blk_cell BK216.out 0).trans rfl
       have hcz21_1 : w7.cell? ⟨gb216, 1, none⟩ = some (.slice A0_1 l0_1.length c0_1) := (blk_cell BK216.out 1).trans rfl
       have hfz21_0 := blk_frozen BK216.out 0
       have hfz21_1 := blk_frozen BK216.out 1
       have p218 : 0 ≤ (a1 : Int) := of_decide_eq_true (by first | (with_reducible assumption) | assumption)
       have q218 : a1 < (l3_2.length : Int) := of_decide_eq_true (by first | (with_reducible assumption) | assumption)
       obtain ⟨ad218, e218, hx218_0⟩ := Kd.at_bool HR3_2.out a1 p218 q218
       (try rw [← Nbq12.out] at hx218_0)
       cases e218
       replace hx218_0 := (HB.out.cell (World.block_lt_of_cell? w _ hx218_0)).trans hx218_0
       replace p218 := eq_true p218
       replace q218 := eq_true q218
       go_wp2
       go_meet
       case rel => exact ⟨_, (true), (by first | rfl | (simp; done) | (simp [*]; done)), H', ⟨by first | omega | exact Nat.le_refl _⟩, ⟨by (with_reducible repeat (first | refine blk_drewN ?_ _ | refine blk_drew ?_ | refine blk_alloc ?_ _)); exact BK216.out⟩, ⟨by (with_reducible repeat (first | refine blk_drewN ?_ _ | refine blk_drew ?_ | refine blk_alloc ?_ _)); exact BK217.out⟩, ⟨by repeat (first | (with_reducible first | exact HB.out | apply below_alloc | apply pw_below_drewN | apply below_drew1 | refine below_set ?_ GE216.out | refine below_set ?_ GE217.out) | exact HB.out)⟩⟩
     ·rw [if_neg c11] at H
      exact absurd H (by simp)
    ·rw [if_neg c10] at H
     exact absurd H (by simp)
   ·rw [if_neg c9] at H
    have c9b0 : ((l3_2.length : Int) == a0_0) = false := beq_eq_false_iff_ne.mpr c9
    have c9b1 : ((l3_2.length : Int) != a0_0) = true := bne_iff_ne.mpr c9
    have H' := Aside0.mk H
    clear H
    have hnb22 := NB217_216.out
    have hnc22 := NB216_217.out
    have hcz23_0 : w7.cell? ⟨gb217, 0, none⟩ = some (.int .i64 a3_0) := (blk_cell BK217.out 0).trans rfl
    have hcz23_1 : w7.cell? ⟨gb217, 1, none⟩ = some (.slice A3_1 l3_1.length c3_1) := (blk_cell BK217.out 1).trans rfl
    have hcz23_2 : w7.cell? ⟨gb217, 2, none⟩ = some (.slice A3_2 l3_2.length c3_2) := (blk_cell BK217.out 2).trans rfl
    have hfz23_0 := blk_frozen BK217.out 0
    have hfz23_1 := blk_frozen BK217.out 1
    have hfz23_2 := blk_frozen BK217.out 2
    have hcz24_0 : w7.cell? ⟨gb216, 0, none⟩ = some (.int .i64 a0_0) := (blk_cell BK216.out 0).trans rfl
    have hcz24_1 : w7.cell? ⟨gb216, 1, none⟩ = some (.slice A0_1 l0_1.length c0_1) := (blk_cell BK216.out 1).trans rfl
    have hfz24_0 := blk_frozen BK216.out 0
    have hfz24_1 := blk_frozen BK216.out 1
    go_wp2
    go_meet
    case rel => exact ⟨_, (true), (by first | rfl | (simp; done) | (simp [*]; done)), H', ⟨by first | omega | exact Nat.le_refl _⟩, ⟨by (with_reducible repeat (first | refine blk_drewN ?_ _ | refine blk_drew ?_ | refine blk_alloc ?_ _)); exact BK216.out⟩, ⟨by (with_reducible repeat (first | refine blk_drewN ?_ _ | refine blk_drew ?_ | refine blk_alloc ?_ _)); exact BK217.out⟩, ⟨by repeat (first | (with_reducible first | exact HB.out | apply below_alloc | apply pw_below_drewN | apply below_drew1 | refine below_set ?_ GE216.out | refine below_set ?_ GE217.out) | exact HB.out)⟩⟩
  ·rw [if_neg c8] at H
   have c8b0 : ((l3_1.length : Int) == (l0_1.length : Int)) = false := beq_eq_false_iff_ne.mpr c8
   have c8b1 : ((l3_1.length : Int) != (l0_1.length : Int)) = true := bne_iff_ne.mpr c8
   have c8b2 : (l3_1.length == l0_1.length) = false := by first | simpa using c8 | (simp at c8 ⊢; omega)
   (first | rw [c8b0] | (simp only [i64_w, i32_w]; rw [c8b0]) | skip)
   have H' := Aside0.mk H
   clear H
   have hnb25 := NB217_216.out
   have hnc25 := NB216_217.out
   have hcz26_0 : w7.cell? ⟨gb217, 0, none⟩ = some (.int .i64 a3_0) := (blk_cell BK217.out 0).trans rfl
   have hcz26_1 : w7.cell? ⟨gb217, 1, none⟩ = some (.slice A3_1 l3_1.length c3_1) := (blk_cell BK217.out 1).trans rfl
   have hcz26_2 : w7.cell? ⟨gb217, 2, none⟩ = some (.slice A3_2 l3_2.length c3_2) := (blk_cell BK217.out 2).trans rfl
   have hfz26_0 := blk_frozen BK217.out 0
   have hfz26_1 := blk_frozen BK217.out 1
   have hfz26_2 := blk_frozen BK217.out 2
   have hcz27_0 : w7.cell? ⟨gb216, 0, none⟩ = some (.int .i64 a0_0) := (blk_cell BK216.out 0).trans rfl
   have hcz27_1 : w7.cell? ⟨gb216, 1, none⟩ = some (.slice A0_1 l0_1.length c0_1) := (blk_cell BK216.out 1).trans rfl
   have hfz27_0 := blk_frozen BK216.out 0
   have hfz27_1 := blk_frozen BK216.out 1
   go_wp2
   go_meet
   case rel => exact ⟨_, (true), (by first | rfl | (simp; done) | (simp [*]; done)), H', ⟨by first | omega | exact Nat.le_refl _⟩, ⟨by (with_reducible repeat (first | refine blk_drewN ?_ _ | refine blk_drew ?_ | refine blk_alloc ?_ _)); exact BK216.out⟩, ⟨by (with_reducible repeat (first | refine blk_drewN ?_ _ | refine blk_drew ?_ | refine blk_alloc ?_ _)); exact BK217.out⟩, ⟨by repeat (first | (with_reducible first | exact HB.out | apply below_alloc | apply pw_below_drewN | apply below_drew1 | refine below_set ?_ GE216.out | refine below_set ?_ GE217.out) | exact HB.out)⟩⟩
 case rest =>
  clear HC5
  try clear c1
  try clear q1
  try clear c2
  try clear p2
  try clear q2
  try clear hx2
  try clear c3
  try clear c8
  try clear c8b0
  try clear c8b1
  try clear c8b2
  try clear c9
  try clear c9b0
  try clear c9b1
  try clear c10
  try clear c10b0
  try clear c11
  try clear c11b0
  try clear q12
  try clear c13
  try clear c14
  try clear c14b0
  try clear c15
  try clear c15b0
  try clear c16
  try clear c19
  try clear p21
  try clear q21
  try clear hx21
  try clear c22
  try clear c25
  try clear hcz17_0
  try clear hcz17_1
  try clear hcz17_2
  try clear hcz18_0
  try clear hcz18_1
  try clear hcz20_0
  try clear hcz20_1
  try clear hcz20_2
  try clear hcz21_0
  try clear hcz21_1
  try clear hcz23_0
  try clear hcz23_1
  try clear hcz23_2
  try clear hcz24_0
  try clear hcz24_1
  try clear hcz26_0
  try clear hcz26_1
  try clear hcz26_2
  try clear hcz27_0
  try clear hcz27_1
  try clear hfz17_0
  try clear hfz17_1
  try clear hfz17_2
  try clear hfz18_0
  try clear hfz18_1
  try clear hfz20_0
  try clear hfz20_1
  try clear hfz20_2
  try clear hfz21_0
  try clear hfz21_1
  try clear hfz23_0
  try clear hfz23_1
  try clear hfz23_2
  try clear hfz24_0
  try clear hfz24_1
  try clear hfz26_0
  try clear hfz26_1
  try clear hfz26_2
  try clear hfz27_0
  try clear hfz27_1
  try clear hx218_0
  try clear hx219_0
  try clear p218
  try clear p219
  try clear q218
  try clear q219
  obtain ⟨kq, x42_4, rfl, HA, HJ4, BK216, BK217, HB⟩ := hcut
  cases kq with
  | zero => exact absurd HA.out (by simp [flow_certified.j0])
  | succ kj4 =>
   have H := HA.out
   clear HA
   simp only [flow_certified.j0] at H
   by_cases c28 : x42_4 = true
   ·subst c28
    have H1 : (some false) = some r := by rw [if_pos rfl] at H; exact H
    clear H
    have H := H1
    clear H1
    obtain rfl := Option.some.inj H
    go_wp2
    go_ret
    exact ⟨by first | rfl | (simp [errW_none, errW_some] <;> rfl) | (simp [*, errW_none, errW_some] <;> rfl), by repeat (first | (with_reducible first | exact HB.out | apply below_alloc | apply pw_below_drewN | apply below_drew1 | refine below_set ?_ GE216.out | refine below_set ?_ GE217.out) | exact HB.out)⟩
   ·replace c28 := Bool.eq_false_iff.mpr c28
    subst c28
    have H1 : (flow_certified.l0 kj4 a1 a2 l0_1 (l0_1.length : Int) 0 a0_0 l0_1 a3_0 l3_1 l3_2) = some r := by rw [if_neg (show ¬ (false = true) by decide)] at H; exact H
    clear H
    have H := H1
    clear H1
    have H' := Aside0.mk H
    clear H
    have hnb29 := NB216_217.out
    have hnc29 := NB217_216.out
    have hcz30_0 : wc.cell? ⟨gb216, 0, none⟩ = some (.int .i64 a0_0) := (blk_cell BK216.out 0).trans rfl
    have hcz30_1 : wc.cell? ⟨gb216, 1, none⟩ = some (.slice A0_1 l0_1.length c0_1) := (blk_cell BK216.out 1).trans rfl
    have hfz30_0 := blk_frozen BK216.out 0
    have hfz30_1 := blk_frozen BK216.out 1
    go_wp2
    go_loopg [46] kj4 (fun kq v46 w' => ∃ (x46_2 : Int), v46 = .int .i64 x46_2 ∧ Aside0 (flow_certified.l0 kq a1 a2 l0_1 (l0_1.length : Int) x46_2 a0_0 l0_1 a3_0 l3_1 l3_2 = some r) ∧ Aside0 (kq ≤ kj4) ∧ Aside0 (w'.heap[gb216]? = some (.cells #[.int .i64 a0_0, (.slice A0_1 l0_1.length c0_1)] 24 (0, 0))) ∧ Aside0 (w'.heap[gb217]? = some (.cells #[.int .i64 a3_0, (.slice A3_1 l3_1.length c3_1), (.slice A3_2 l3_2.length c3_2)] 39 (0, 0))) ∧ Aside0 (Below w.heap.size w w'))
    case atStart => exact ⟨(0), (by first | rfl | (simp; done) | (simp [*]; done)), H', ⟨Nat.le_refl _⟩, ⟨by (with_reducible repeat (first | refine blk_drewN ?_ _ | refine blk_drew ?_ | refine blk_alloc ?_ _)); exact BK216.out⟩, ⟨by (with_reducible repeat (first | refine blk_drewN ?_ _ | refine blk_drew ?_ | refine blk_alloc ?_ _)); exact BK217.out⟩, ⟨by repeat (first | (with_reducible first | exact HB.out | apply below_alloc | apply pw_below_drewN | apply below_drew1 | refine below_set ?_ GE216.out | refine below_set ?_ GE217.out) | exact HB.out)⟩⟩
    case round =>
     clear H'
     try clear c1
     try clear q1
     try clear c2
     try clear p2
     try clear q2
     try clear hx2
     try clear c3
     try clear c8
     try clear c8b0
     try clear c8b1
     try clear c8b2
     try clear c9
     try clear c9b0
     try clear c9b1
     try clear c10
     try clear c10b0
     try clear c11
     try clear c11b0
     try clear q12
     try clear c13
     try clear c14
     try clear c14b0
     try clear c15
     try clear c15b0
     try clear c16
     try clear c19
     try clear p21
     try clear q21
     try clear hx21
     try clear c22
     try clear c25
     try clear c28
     try clear c29
     try clear hcz17_0
     try clear hcz17_1
     try clear hcz17_2
     try clear hcz18_0
     try clear hcz18_1
     try clear hcz20_0
     try clear hcz20_1
     try clear hcz20_2
     try clear hcz21_0
     try clear hcz21_1
     try clear hcz23_0
     try clear hcz23_1
     try clear hcz23_2
     try clear hcz24_0
     try clear hcz24_1
     try clear hcz26_0
     try clear hcz26_1
     try clear hcz26_2
     try clear hcz27_0
     try clear hcz27_1
     try clear hcz30_0
     try clear hcz30_1
     try clear hfz17_0
     try clear hfz17_1
     try clear hfz17_2
     try clear hfz18_0
     try clear hfz18_1
     try clear hfz20_0
     try clear hfz20_1
     try clear hfz20_2
     try clear hfz21_0
     try clear hfz21_1
     try clear hfz23_0
     try clear hfz23_1
     try clear hfz23_2
     try clear hfz24_0
     try clear hfz24_1
     try clear hfz26_0
     try clear hfz26_1
     try clear hfz26_2
     try clear hfz27_0
     try clear hfz27_1
     try clear hfz30_0
     try clear hfz30_1
     try clear hx218_0
     try clear hx219_0
     try clear p2
     try clear p21
     try clear p218
     try clear p219
     try clear q1
     try clear q12
     try clear q2
     try clear q21
     try clear q218
     try clear q219
     obtain ⟨x46_2, rfl, HA, HK2, BK216, BK217, HB⟩ := hrel
     cases gk with
     | zero => exact absurd HA.out (by simp [flow_certified.l0])
     | succ k2 =>
      have H := HA.out
      clear HA
      simp only [flow_certified.l0] at H
      by_cases c31 : x46_2 < (l0_1.length : Int)
      ·rw [if_pos c31] at H
       have c31b0 : decide (x46_2 < (l0_1.length : Int)) = true := decide_eq_true c31
       clear c31
       by_cases c32 : 0 ≤ x46_2
       ·rw [if_pos c32] at H
        have c32b0 : decide (0 ≤ x46_2) = true := decide_eq_true c32
        clear c32
        by_cases c33 : x46_2 < (l0_1.length : Int)
        ·rw [if_pos c33] at H
         have c33b0 : decide (x46_2 < (l0_1.length : Int)) = true := decide_eq_true c33
         clear c33
         by_cases c34 : x46_2 < (l3_1.length : Int)
         ·rw [if_pos c34] at H
          have c34b0 : decide (x46_2 < (l3_1.length : Int)) = true := decide_eq_true c34
          clear c34
          by_cases c35 : (rd l3_1 x46_2) < 0
          ·rw [if_pos c35] at H
           have c35b0 : decide ((rd l3_1 x46_2) < 0) = true := decide_eq_true c35
           clear c35
           obtain rfl := Option.some.inj H
           have p220 : 0 ≤ (x46_2 : Int) := of_decide_eq_true (by first | (with_reducible assumption) | assumption)
           have q220 : x46_2 < (l0_1.length : Int) := of_decide_eq_true (by first | (with_reducible assumption) | assumption)
           obtain ⟨ad220, e220, hx220_0, hx220_1, hx220_2⟩ := at_T36 HR0_1.out x46_2 p220 q220
           cases e220
           replace hx220_0 := (HB.out.cell (World.block_lt_of_cell? w _ hx220_0)).trans hx220_0
           replace hx220_1 := (HB.out.cell (World.block_lt_of_cell? w _ hx220_1)).trans hx220_1
           replace hx220_2 := (HB.out.cell (World.block_lt_of_cell? w _ hx220_2)).trans hx220_2
           replace p220 := eq_true p220
           replace q220 := eq_true q220
           try go_wp2_with (first | ((with_reducible refine gate_dst (N := 10) rfl ?_); (try (refine gate_guard (by rfl) ?_; dsimp only)); refine box_event ?hg (N := 10) ?hd (cs := #[.int .i64 0, .int .i64 0, .int .i64 0]) (t := 36) ?hr ?_; (case hd => rfl); (case hg => rfl); (case hr => first | (go_simp; done) | (go_simp; rfl)); intro gb221 hg w36 hbox hb; have n0_ := Aside0.mk (blk_below (g := gb216) (o := .cells #[.int .i64 a0_0, .slice (some ad220) l0_1.length c0_1] 24 (0, 0)) (by (with_reducible repeat (first | refine blk_drewN ?_ _ | refine blk_drew ?_ | refine blk_alloc ?_ _)); exact BK216.out) hb); have n1_ := Aside0.mk (blk_below (g := gb217) (o := .cells #[.int .i64 a3_0, .slice A3_1 l3_1.length c3_1, .slice A3_2 l3_2.length c3_2] 39 (0, 0)) (by (with_reducible repeat (first | refine blk_drewN ?_ _ | refine blk_drew ?_ | refine blk_alloc ?_ _)); exact BK217.out) hb); have n2_ := Aside0.mk (below_step (by repeat (first | (with_reducible first | exact HB.out | apply below_alloc | apply pw_below_drewN | apply below_drew1 | refine below_set ?_ GE216.out | refine below_set ?_ GE217.out) | exact HB.out)) hb); have n3_ := Aside0.mk (hbox); have n4_ := Aside0.mk ((by rw [hg]; exact (below_size (by repeat (first | (with_reducible first | exact HB.out | apply below_alloc | apply pw_below_drewN | apply below_drew1 | refine below_set ?_ GE216.out | refine below_set ?_ GE217.out) | exact HB.out))) : w.heap.size ≤ gb221)); have n5_ := Aside0.mk ((by rw [hg]; exact (below_size (by repeat (first | (with_reducible first | exact HB.out | apply below_alloc | apply pw_below_drewN | apply below_drew1 | refine below_set ?_ GE216.out | refine below_set ?_ GE217.out) | exact HB.out))) : w.heap.size ≤ gb221)); have n6_ := Aside0.mk ((by rw [hg]; exact Nat.ne_of_lt (blk_lt (g := gb216) (o := .cells #[.int .i64 a0_0, .slice (some ad220) l0_1.length c0_1] 24 (0, 0)) (by (with_reducible repeat (first | refine blk_drewN ?_ _ | refine blk_drew ?_ | refine blk_alloc ?_ _)); exact BK216.out)) : gb216 ≠ gb221)); have n7_ := Aside0.mk ((by rw [hg]; exact Nat.ne_of_gt (blk_lt (g := gb216) (o := .cells #[.int .i64 a0_0, .slice (some ad220) l0_1.length c0_1] 24 (0, 0)) (by (with_reducible repeat (first | refine blk_drewN ?_ _ | refine blk_drew ?_ | refine blk_alloc ?_ _)); exact BK216.out)) : gb221 ≠ gb216)); have n8_ := Aside0.mk ((by rw [hg]; exact Nat.ne_of_lt (blk_lt (g := gb217) (o := .cells #[.int .i64 a3_0, .slice A3_1 l3_1.length c3_1, .slice A3_2 l3_2.length c3_2] 39 (0, 0)) (by (with_reducible repeat (first | refine blk_drewN ?_ _ | refine blk_drew ?_ | refine blk_alloc ?_ _)); exact BK217.out)) : gb217 ≠ gb221)); have n9_ := Aside0.mk ((by rw [hg]; exact Nat.ne_of_gt (blk_lt (g := gb217) (o := .cells #[.int .i64 a3_0, .slice A3_1 l3_1.length c3_1, .slice A3_2 l3_2.length c3_2] 39 (0, 0)) (by (with_reducible repeat (first | refine blk_drewN ?_ _ | refine blk_drew ?_ | refine blk_alloc ?_ _)); exact BK217.out)) : gb221 ≠ gb217)); clear BK216; clear BK217; clear HB; have BK216 := n0_; have BK217 := n1_; have HB := n2_; have BK221 := n3_; have GW221 := n4_; have GE221 := n5_; have NB216_221 := n6_; have NB221_216 := n7_; have NB217_221 := n8_; have NB221_217 := n9_; clear n0_ n1_ n2_ n3_ n4_ n5_ n6_ n7_ n8_ n9_; clear hb hbox hg; have hnb37 := NB221_216.out; have hnc37 := NB216_221.out; have hnb38 := NB221_217.out; have hnc38 := NB217_221.out; have hcz39_0 : w36.cell? ⟨gb221, 0, none⟩ = some (.int .i64 0) := (blk_cell BK221.out 0).trans rfl; have hcz39_1 : w36.cell? ⟨gb221, 1, none⟩ = some (.int .i64 0) := (blk_cell BK221.out 1).trans rfl; have hcz39_2 : w36.cell? ⟨gb221, 2, none⟩ = some (.int .i64 0) := (blk_cell BK221.out 2).trans rfl; have hfz39_0 := blk_frozen BK221.out 0; have hfz39_1 := blk_frozen BK221.out 1; have hfz39_2 := blk_frozen BK221.out 2))
           have n0_ : Aside0 ((((w36.setCell ⟨gb221, 0, none⟩ (.int .i64 ((rd_T36 l0_1 x46_2).f0))).setCell ⟨gb221, 1, none⟩ (.int .i64 ((rd_T36 l0_1 x46_2).f1))).setCell ⟨gb221, 2, none⟩ (.int .i64 ((rd_T36 l0_1 x46_2).f2))).heap[gb216]? = some (.cells #[.int .i64 a0_0, .slice (some ad220) l0_1.length c0_1] 24 (0, 0))) := ⟨by (with_reducible repeat (first | refine blk_drewN ?_ _ | refine blk_drew ?_ | refine blk_alloc ?_ _)); refine blk_far ?_ NB216_221.out _; (with_reducible repeat (first | refine blk_drewN ?_ _ | refine blk_drew ?_ | refine blk_alloc ?_ _)); refine blk_far ?_ NB216_221.out _; (with_reducible repeat (first | refine blk_drewN ?_ _ | refine blk_drew ?_ | refine blk_alloc ?_ _)); refine blk_far ?_ NB216_221.out _; (with_reducible repeat (first | refine blk_drewN ?_ _ | refine blk_drew ?_ | refine blk_alloc ?_ _)); exact BK216.out⟩
           have n1_ : Aside0 ((((w36.setCell ⟨gb221, 0, none⟩ (.int .i64 ((rd_T36 l0_1 x46_2).f0))).setCell ⟨gb221, 1, none⟩ (.int .i64 ((rd_T36 l0_1 x46_2).f1))).setCell ⟨gb221, 2, none⟩ (.int .i64 ((rd_T36 l0_1 x46_2).f2))).heap[gb217]? = some (.cells #[.int .i64 a3_0, .slice A3_1 l3_1.length c3_1, .slice A3_2 l3_2.length c3_2] 39 (0, 0))) := ⟨by (with_reducible repeat (first | refine blk_drewN ?_ _ | refine blk_drew ?_ | refine blk_alloc ?_ _)); refine blk_far ?_ NB217_221.out _; (with_reducible repeat (first | refine blk_drewN ?_ _ | refine blk_drew ?_ | refine blk_alloc ?_ _)); refine blk_far ?_ NB217_221.out _; (with_reducible repeat (first | refine blk_drewN ?_ _ | refine blk_drew ?_ | refine blk_alloc ?_ _)); refine blk_far ?_ NB217_221.out _; (with_reducible repeat (first | refine blk_drewN ?_ _ | refine blk_drew ?_ | refine blk_alloc ?_ _)); exact BK217.out⟩
           have n2_ : Aside0 ((((w36.setCell ⟨gb221, 0, none⟩ (.int .i64 ((rd_T36 l0_1 x46_2).f0))).setCell ⟨gb221, 1, none⟩ (.int .i64 ((rd_T36 l0_1 x46_2).f1))).setCell ⟨gb221, 2, none⟩ (.int .i64 ((rd_T36 l0_1 x46_2).f2))).heap[gb221]? = some (.cells #[.int .i64 ((rd_T36 l0_1 x46_2).f0), .int .i64 ((rd_T36 l0_1 x46_2).f1), .int .i64 ((rd_T36 l0_1 x46_2).f2)] 36 (0, 0))) := ⟨by (with_reducible repeat (first | refine blk_drewN ?_ _ | refine blk_drew ?_ | refine blk_alloc ?_ _)); refine blk_put (cs := #[.int .i64 ((rd_T36 l0_1 x46_2).f0), .int .i64 ((rd_T36 l0_1 x46_2).f1), .int .i64 0]) ?_ 2 _ rfl; (with_reducible repeat (first | refine blk_drewN ?_ _ | refine blk_drew ?_ | refine blk_alloc ?_ _)); refine blk_put (cs := #[.int .i64 ((rd_T36 l0_1 x46_2).f0), .int .i64 0, .int .i64 0]) ?_ 1 _ rfl; (with_reducible repeat (first | refine blk_drewN ?_ _ | refine blk_drew ?_ | refine blk_alloc ?_ _)); refine blk_put (cs := #[.int .i64 0, .int .i64 0, .int .i64 0]) ?_ 0 _ rfl; (with_reducible repeat (first | refine blk_drewN ?_ _ | refine blk_drew ?_ | refine blk_alloc ?_ _)); exact BK221.out⟩
           have n3_ : Aside0 (Below w.heap.size w (((w36.setCell ⟨gb221, 0, none⟩ (.int .i64 ((rd_T36 l0_1 x46_2).f0))).setCell ⟨gb221, 1, none⟩ (.int .i64 ((rd_T36 l0_1 x46_2).f1))).setCell ⟨gb221, 2, none⟩ (.int .i64 ((rd_T36 l0_1 x46_2).f2)))) := ⟨by repeat (first | (with_reducible first | exact HB.out | apply below_alloc | apply pw_below_drewN | apply below_drew1 | refine below_set ?_ GE216.out | refine below_set ?_ GE217.out | refine below_set ?_ GE221.out) | exact HB.out)⟩
           (try clear BK216)
           (try clear BK217)
           (try clear BK221)
           (try clear HB)
           generalize (((w36.setCell ⟨gb221, 0, none⟩ (.int .i64 ((rd_T36 l0_1 x46_2).f0))).setCell ⟨gb221, 1, none⟩ (.int .i64 ((rd_T36 l0_1 x46_2).f1))).setCell ⟨gb221, 2, none⟩ (.int .i64 ((rd_T36 l0_1 x46_2).f2))) = w40 at n0_ n1_ n2_ n3_ ⊢
           have BK216 := n0_
           have BK217 := n1_
           have BK221 := n2_
           have HB := n3_
           clear n0_ n1_ n2_ n3_
           have n0_ := Aside0.mk (blk_drew BK216.out)
           have n1_ := Aside0.mk (blk_drew BK217.out)
           have n2_ := Aside0.mk (blk_drew BK221.out)
           have n3_ := Aside0.mk (below_drew1 HB.out)
           clear BK216
           clear BK217
           clear BK221
           clear HB
           have BK216 := n0_
           have BK217 := n1_
           have BK221 := n2_
           have HB := n3_
           clear n0_ n1_ n2_ n3_
           have p222 : 0 ≤ (x46_2 : Int) := of_decide_eq_true (by first | (with_reducible assumption) | assumption)
           have q222 : x46_2 < (l3_1.length : Int) := of_decide_eq_true (by first | (with_reducible assumption) | assumption)
           obtain ⟨ad222, e222, hx222_0⟩ := Kd.at_int HR3_1.out x46_2 p222 q222
           have hw222_0 := hx222_0
           cases e222
           replace hx222_0 := (HB.out.cell (World.block_lt_of_cell? w _ hx222_0)).trans hx222_0
           replace p222 := eq_true p222
           replace q222 := eq_true q222
           refine start_ (n := 16) (S := fun w' => w'.cell? ⟨gb217, 0, none⟩ = some (.int .i64 a3_0) ∧ w'.cell? ⟨gb217, 1, none⟩ = some (.slice (some ad222) l3_1.length c3_1) ∧ w'.cell? ⟨gb217, 2, none⟩ = some (.slice A3_2 l3_2.length c3_2) ∧ w'.cell? (ad222.add (x46_2).toNat) = some (.int .i64 (rd l3_1 x46_2))) (ds := []) #[false, false, false, false, false, false, false, false, false, false, false, false, false, false, false, false] (by kernel_rfl) rfl rfl ⟨(blk_cell BK217.out 0).trans rfl, (blk_cell BK217.out 1).trans rfl, (blk_cell BK217.out 2).trans rfl, ((HB.out.cell (World.block_lt_of_cell? w _ hw222_0)).trans hw222_0)⟩ (fun hHeld => ?_); refine with_tabW flow_certified.tab6 flow_certified.bits6 (fun HT_ HW_ => ?_)
           generalize w40.drew = w41 at BK216 BK217 BK221 HB hx222_0 hHeld ⊢
           refine pure_ (i := 0) (N := some 51) (v := ?_) (a' := ?_) #[true, false, false, false, false, false, false, false, false, false, false, false, false, false, false, false] rfl rfl (any_of HT_.out (by kernel_rfl)) (fun _ _ _ h => h) (Or.inl ⟨by rfl, ?_⟩) ?_ ?_
           rotate_left
           ·intro w'
            go_simp
            with_reducible rfl
           rotate_left
           ·simp only [Act.put, List.setIfInBounds_toArray, List.set_cons_zero, List.set_cons_succ, i64_w, i32_w]
            rfl
           refine pure_ (i := 2) (N := some 53) (v := ?_) (a' := ?_) #[true, false, true, false, false, false, false, false, false, false, false, false, false, false, false, false] rfl rfl (any_of HT_.out (by kernel_rfl)) (fun _ _ _ h => h) (Or.inl ⟨by rfl, ?_⟩) ?_ ?_
           rotate_left
           ·intro w'
            go_simp
            with_reducible rfl
           rotate_left
           ·simp only [Act.put, List.setIfInBounds_toArray, List.set_cons_zero, List.set_cons_succ, i64_w, i32_w]
            rfl
           refine take_ (i := 1) (N := some 52) (v := ?_) (a' := ?_) #[true, true, true, false, false, false, false, false, false, false, false, false, false, false, false, false] rfl rfl (take_ofW HT_.out HW_.out (by kernel_rfl)) (fun _ _ _ h => h) (Or.inl ⟨by rfl, ?_⟩) hHeld ?_ ?_
           rotate_left
           ·rintro w' ⟨s0, s1, s2, s3⟩
            go_simp
            with_reducible rfl
           rotate_left
           ·simp only [Act.put, List.setIfInBounds_toArray, List.set_cons_zero, List.set_cons_succ, i64_w, i32_w]
            rfl
           refine pure_ (i := 3) (N := some 54) (v := ?_) (a' := ?_) #[true, true, true, true, false, false, false, false, false, false, false, false, false, false, false, false] rfl rfl (any_of HT_.out (by kernel_rfl)) (fun _ _ _ h => h) (Or.inl ⟨by rfl, ?_⟩) ?_ ?_
           rotate_left
           ·intro w'
            go_simp
            with_reducible rfl
           rotate_left
           ·simp only [Act.put, List.setIfInBounds_toArray, List.set_cons_zero, List.set_cons_succ, i64_w, i32_w]
            rfl
           refine take_ (i := 4) (N := some 55) (v := ?_) (a' := ?_) #[true, true, true, true, true, false, false, false, false, false, false, false, false, false, false, false] rfl rfl (take_ofW HT_.out HW_.out (by kernel_rfl)) (fun _ _ _ h => h) (Or.inl ⟨by rfl, ?_⟩) hHeld ?_ ?_
           rotate_left
           ·rintro w' ⟨s0, s1, s2, s3⟩
            go_simp
            with_reducible rfl
           rotate_left
           ·simp only [Act.put, List.setIfInBounds_toArray, List.set_cons_zero, List.set_cons_succ, i64_w, i32_w]
            rfl
           refine pure_ (i := 5) (N := some 56) (v := ?_) (a' := ?_) #[true, true, true, true, true, true, false, false, false, false, false, false, false, false, false, false] rfl rfl (any_of HT_.out (by kernel_rfl)) (fun _ _ _ h => h) (Or.inl ⟨by rfl, ?_⟩) ?_ ?_
           rotate_left
           ·intro w'
            go_simp
            with_reducible rfl
           rotate_left
           ·simp only [Act.put, List.setIfInBounds_toArray, List.set_cons_zero, List.set_cons_succ, i64_w, i32_w]
            rfl
           refine pure_ (i := 6) (N := some 57) (v := ?_) (a' := ?_) #[true, true, true, true, true, true, true, false, false, false, false, false, false, false, false, false] rfl rfl (any_of HT_.out (by kernel_rfl)) (fun _ _ _ h => h) (Or.inl ⟨by rfl, ?_⟩) ?_ ?_
           rotate_left
           ·intro w'
            go_simp
            with_reducible rfl
           rotate_left
           ·simp only [Act.put, List.setIfInBounds_toArray, List.set_cons_zero, List.set_cons_succ, i64_w, i32_w]
            rfl
           refine pure_ (i := 7) (N := some 58) (v := undef) (a' := ?_) #[true, true, true, true, true, true, true, true, false, false, false, false, false, false, false, false] rfl rfl (any_of HT_.out (by kernel_rfl)) (fun _ _ _ h => h) (Or.inr ⟨by rfl, rfl⟩) ?_ ?_
           rotate_left
           ·simp only [Act.put, List.setIfInBounds_toArray, List.set_cons_zero, List.set_cons_succ, i64_w, i32_w]
            rfl
           refine pure_ (i := 8) (N := some 59) (v := undef) (a' := ?_) #[true, true, true, true, true, true, true, true, true, false, false, false, false, false, false, false] rfl rfl (any_of HT_.out (by kernel_rfl)) (fun _ _ _ h => h) (Or.inr ⟨by rfl, rfl⟩) ?_ ?_
           rotate_left
           ·simp only [Act.put, List.setIfInBounds_toArray, List.set_cons_zero, List.set_cons_succ, i64_w, i32_w]
            rfl
           refine pure_ (i := 9) (N := some 60) (v := undef) (a' := ?_) #[true, true, true, true, true, true, true, true, true, true, false, false, false, false, false, false] rfl rfl (any_of HT_.out (by kernel_rfl)) (fun _ _ _ h => h) (Or.inr ⟨by rfl, rfl⟩) ?_ ?_
           rotate_left
           ·simp only [Act.put, List.setIfInBounds_toArray, List.set_cons_zero, List.set_cons_succ, i64_w, i32_w]
            rfl
           refine pure_ (i := 10) (N := some 61) (v := undef) (a' := ?_) #[true, true, true, true, true, true, true, true, true, true, true, false, false, false, false, false] rfl rfl (any_of HT_.out (by kernel_rfl)) (fun _ _ _ h => h) (Or.inr ⟨by rfl, rfl⟩) ?_ ?_
           rotate_left
           ·simp only [Act.put, List.setIfInBounds_toArray, List.set_cons_zero, List.set_cons_succ, i64_w, i32_w]
            rfl
           refine pure_ (i := 11) (N := some 62) (v := undef) (a' := ?_) #[true, true, true, true, true, true, true, true, true, true, true, true, false, false, false, false] rfl rfl (any_of HT_.out (by kernel_rfl)) (fun _ _ _ h => h) (Or.inr ⟨by rfl, rfl⟩) ?_ ?_
           rotate_left
           ·simp only [Act.put, List.setIfInBounds_toArray, List.set_cons_zero, List.set_cons_succ, i64_w, i32_w]
            rfl
           refine pure_ (i := 12) (N := some 63) (v := undef) (a' := ?_) #[true, true, true, true, true, true, true, true, true, true, true, true, true, false, false, false] rfl rfl (any_of HT_.out (by kernel_rfl)) (fun _ _ _ h => h) (Or.inr ⟨by rfl, rfl⟩) ?_ ?_
           rotate_left
           ·simp only [Act.put, List.setIfInBounds_toArray, List.set_cons_zero, List.set_cons_succ, i64_w, i32_w]
            rfl
           refine pure_ (i := 13) (N := some 64) (v := undef) (a' := ?_) #[true, true, true, true, true, true, true, true, true, true, true, true, true, true, false, false] rfl rfl (any_of HT_.out (by kernel_rfl)) (fun _ _ _ h => h) (Or.inr ⟨by rfl, rfl⟩) ?_ ?_
           rotate_left
           ·simp only [Act.put, List.setIfInBounds_toArray, List.set_cons_zero, List.set_cons_succ, i64_w, i32_w]
            rfl
           refine pure_ (i := 14) (N := some 65) (v := undef) (a' := ?_) #[true, true, true, true, true, true, true, true, true, true, true, true, true, true, true, false] rfl rfl (any_of HT_.out (by kernel_rfl)) (fun _ _ _ h => h) (Or.inr ⟨by rfl, rfl⟩) ?_ ?_
           rotate_left
           ·simp only [Act.put, List.setIfInBounds_toArray, List.set_cons_zero, List.set_cons_succ, i64_w, i32_w]
            rfl
           refine pure_ (i := 15) (N := some 66) (v := ?_) (a' := ?_) #[true, true, true, true, true, true, true, true, true, true, true, true, true, true, true, true] rfl rfl (any_of HT_.out (by kernel_rfl)) (fun _ _ _ h => h) (Or.inl ⟨by rfl, ?_⟩) ?_ ?_
           rotate_left
           ·intro w'
            go_simp
            with_reducible rfl
           rotate_left
           ·simp only [Act.put, List.setIfInBounds_toArray, List.set_cons_zero, List.set_cons_succ, i64_w, i32_w]
            rfl
           refine done_ (done_of HT_.out (by kernel_rfl)) ?_
           try go_wp2
           go_ret
           exact ⟨by first | rfl | (simp [errW_none, errW_some] <;> rfl) | (simp [*, errW_none, errW_some] <;> rfl), by repeat (first | (with_reducible first | exact HB.out | apply below_alloc | apply pw_below_drewN | apply below_drew1 | refine below_set ?_ GE216.out | refine below_set ?_ GE217.out | refine below_set ?_ GE221.out) | exact HB.out)⟩
          ·rw [if_neg c35] at H
           have c35b0 : decide ((rd l3_1 x46_2) < 0) = false := decide_eq_false c35
           clear c35
           by_cases c42 : (rd l3_1 x46_2) > ((rd_T36 l0_1 x46_2).f2)
           ·rw [if_pos c42] at H
            have c42b0 : decide (((rd_T36 l0_1 x46_2).f2) < (rd l3_1 x46_2)) = true := decide_eq_true c42
            clear c42
            obtain rfl := Option.some.inj H
            have p220 : 0 ≤ (x46_2 : Int) := of_decide_eq_true (by first | (with_reducible assumption) | assumption)
            have q220 : x46_2 < (l0_1.length : Int) := of_decide_eq_true (by first | (with_reducible assumption) | assumption)
            obtain ⟨ad220, e220, hx220_0, hx220_1, hx220_2⟩ := at_T36 HR0_1.out x46_2 p220 q220
            cases e220
            replace hx220_0 := (HB.out.cell (World.block_lt_of_cell? w _ hx220_0)).trans hx220_0
            replace hx220_1 := (HB.out.cell (World.block_lt_of_cell? w _ hx220_1)).trans hx220_1
            replace hx220_2 := (HB.out.cell (World.block_lt_of_cell? w _ hx220_2)).trans hx220_2
            replace p220 := eq_true p220
            replace q220 := eq_true q220
            try go_wp2_with (first | ((with_reducible refine gate_dst (N := 10) rfl ?_); (try (refine gate_guard (by rfl) ?_; dsimp only)); refine box_event ?hg (N := 10) ?hd (cs := #[.int .i64 0, .int .i64 0, .int .i64 0]) (t := 36) ?hr ?_; (case hd => rfl); (case hg => rfl); (case hr => first | (go_simp; done) | (go_simp; rfl)); intro gb221 hg w43 hbox hb; have n0_ := Aside0.mk (blk_below (g := gb216) (o := .cells #[.int .i64 a0_0, .slice (some ad220) l0_1.length c0_1] 24 (0, 0)) (by (with_reducible repeat (first | refine blk_drewN ?_ _ | refine blk_drew ?_ | refine blk_alloc ?_ _)); exact BK216.out) hb); have n1_ := Aside0.mk (blk_below (g := gb217) (o := .cells #[.int .i64 a3_0, .slice A3_1 l3_1.length c3_1, .slice A3_2 l3_2.length c3_2] 39 (0, 0)) (by (with_reducible repeat (first | refine blk_drewN ?_ _ | refine blk_drew ?_ | refine blk_alloc ?_ _)); exact BK217.out) hb); have n2_ := Aside0.mk (below_step (by repeat (first | (with_reducible first | exact HB.out | apply below_alloc | apply pw_below_drewN | apply below_drew1 | refine below_set ?_ GE216.out | refine below_set ?_ GE217.out) | exact HB.out)) hb); have n3_ := Aside0.mk (hbox); have n4_ := Aside0.mk ((by rw [hg]; exact (below_size (by repeat (first | (with_reducible first | exact HB.out | apply below_alloc | apply pw_below_drewN | apply below_drew1 | refine below_set ?_ GE216.out | refine below_set ?_ GE217.out) | exact HB.out))) : w.heap.size ≤ gb221)); have n5_ := Aside0.mk ((by rw [hg]; exact (below_size (by repeat (first | (with_reducible first | exact HB.out | apply below_alloc | apply pw_below_drewN | apply below_drew1 | refine below_set ?_ GE216.out | refine below_set ?_ GE217.out) | exact HB.out))) : w.heap.size ≤ gb221)); have n6_ := Aside0.mk ((by rw [hg]; exact Nat.ne_of_lt (blk_lt (g := gb216) (o := .cells #[.int .i64 a0_0, .slice (some ad220) l0_1.length c0_1] 24 (0, 0)) (by (with_reducible repeat (first | refine blk_drewN ?_ _ | refine blk_drew ?_ | refine blk_alloc ?_ _)); exact BK216.out)) : gb216 ≠ gb221)); have n7_ := Aside0.mk ((by rw [hg]; exact Nat.ne_of_gt (blk_lt (g := gb216) (o := .cells #[.int .i64 a0_0, .slice (some ad220) l0_1.length c0_1] 24 (0, 0)) (by (with_reducible repeat (first | refine blk_drewN ?_ _ | refine blk_drew ?_ | refine blk_alloc ?_ _)); exact BK216.out)) : gb221 ≠ gb216)); have n8_ := Aside0.mk ((by rw [hg]; exact Nat.ne_of_lt (blk_lt (g := gb217) (o := .cells #[.int .i64 a3_0, .slice A3_1 l3_1.length c3_1, .slice A3_2 l3_2.length c3_2] 39 (0, 0)) (by (with_reducible repeat (first | refine blk_drewN ?_ _ | refine blk_drew ?_ | refine blk_alloc ?_ _)); exact BK217.out)) : gb217 ≠ gb221)); have n9_ := Aside0.mk ((by rw [hg]; exact Nat.ne_of_gt (blk_lt (g := gb217) (o := .cells #[.int .i64 a3_0, .slice A3_1 l3_1.length c3_1, .slice A3_2 l3_2.length c3_2] 39 (0, 0)) (by (with_reducible repeat (first | refine blk_drewN ?_ _ | refine blk_drew ?_ | refine blk_alloc ?_ _)); exact BK217.out)) : gb221 ≠ gb217)); clear BK216; clear BK217; clear HB; have BK216 := n0_; have BK217 := n1_; have HB := n2_; have BK221 := n3_; have GW221 := n4_; have GE221 := n5_; have NB216_221 := n6_; have NB221_216 := n7_; have NB217_221 := n8_; have NB221_217 := n9_; clear n0_ n1_ n2_ n3_ n4_ n5_ n6_ n7_ n8_ n9_; clear hb hbox hg; have hnb44 := NB221_216.out; have hnc44 := NB216_221.out; have hnb45 := NB221_217.out; have hnc45 := NB217_221.out; have hcz46_0 : w43.cell? ⟨gb221, 0, none⟩ = some (.int .i64 0) := (blk_cell BK221.out 0).trans rfl; have hcz46_1 : w43.cell? ⟨gb221, 1, none⟩ = some (.int .i64 0) := (blk_cell BK221.out 1).trans rfl; have hcz46_2 : w43.cell? ⟨gb221, 2, none⟩ = some (.int .i64 0) := (blk_cell BK221.out 2).trans rfl; have hfz46_0 := blk_frozen BK221.out 0; have hfz46_1 := blk_frozen BK221.out 1; have hfz46_2 := blk_frozen BK221.out 2))
            have n0_ : Aside0 ((((w43.setCell ⟨gb221, 0, none⟩ (.int .i64 ((rd_T36 l0_1 x46_2).f0))).setCell ⟨gb221, 1, none⟩ (.int .i64 ((rd_T36 l0_1 x46_2).f1))).setCell ⟨gb221, 2, none⟩ (.int .i64 ((rd_T36 l0_1 x46_2).f2))).heap[gb216]? = some (.cells #[.int .i64 a0_0, .slice (some ad220) l0_1.length c0_1] 24 (0, 0))) := ⟨by (with_reducible repeat (first | refine blk_drewN ?_ _ | refine blk_drew ?_ | refine blk_alloc ?_ _)); refine blk_far ?_ NB216_221.out _; (with_reducible repeat (first | refine blk_drewN ?_ _ | refine blk_drew ?_ | refine blk_alloc ?_ _)); refine blk_far ?_ NB216_221.out _; (with_reducible repeat (first | refine blk_drewN ?_ _ | refine blk_drew ?_ | refine blk_alloc ?_ _)); refine blk_far ?_ NB216_221.out _; (with_reducible repeat (first | refine blk_drewN ?_ _ | refine blk_drew ?_ | refine blk_alloc ?_ _)); exact BK216.out⟩
            have n1_ : Aside0 ((((w43.setCell ⟨gb221, 0, none⟩ (.int .i64 ((rd_T36 l0_1 x46_2).f0))).setCell ⟨gb221, 1, none⟩ (.int .i64 ((rd_T36 l0_1 x46_2).f1))).setCell ⟨gb221, 2, none⟩ (.int .i64 ((rd_T36 l0_1 x46_2).f2))).heap[gb217]? = some (.cells #[.int .i64 a3_0, .slice A3_1 l3_1.length c3_1, .slice A3_2 l3_2.length c3_2] 39 (0, 0))) := ⟨by (with_reducible repeat (first | refine blk_drewN ?_ _ | refine blk_drew ?_ | refine blk_alloc ?_ _)); refine blk_far ?_ NB217_221.out _; (with_reducible repeat (first | refine blk_drewN ?_ _ | refine blk_drew ?_ | refine blk_alloc ?_ _)); refine blk_far ?_ NB217_221.out _; (with_reducible repeat (first | refine blk_drewN ?_ _ | refine blk_drew ?_ | refine blk_alloc ?_ _)); refine blk_far ?_ NB217_221.out _; (with_reducible repeat (first | refine blk_drewN ?_ _ | refine blk_drew ?_ | refine blk_alloc ?_ _)); exact BK217.out⟩
            have n2_ : Aside0 ((((w43.setCell ⟨gb221, 0, none⟩ (.int .i64 ((rd_T36 l0_1 x46_2).f0))).setCell ⟨gb221, 1, none⟩ (.int .i64 ((rd_T36 l0_1 x46_2).f1))).setCell ⟨gb221, 2, none⟩ (.int .i64 ((rd_T36 l0_1 x46_2).f2))).heap[gb221]? = some (.cells #[.int .i64 ((rd_T36 l0_1 x46_2).f0), .int .i64 ((rd_T36 l0_1 x46_2).f1), .int .i64 ((rd_T36 l0_1 x46_2).f2)] 36 (0, 0))) := ⟨by (with_reducible repeat (first | refine blk_drewN ?_ _ | refine blk_drew ?_ | refine blk_alloc ?_ _)); refine blk_put (cs := #[.int .i64 ((rd_T36 l0_1 x46_2).f0), .int .i64 ((rd_T36 l0_1 x46_2).f1), .int .i64 0]) ?_ 2 _ rfl; (with_reducible repeat (first | refine blk_drewN ?_ _ | refine blk_drew ?_ | refine blk_alloc ?_ _)); refine blk_put (cs := #[.int .i64 ((rd_T36 l0_1 x46_2).f0), .int .i64 0, .int .i64 0]) ?_ 1 _ rfl; (with_reducible repeat (first | refine blk_drewN ?_ _ | refine blk_drew ?_ | refine blk_alloc ?_ _)); refine blk_put (cs := #[.int .i64 0, .int .i64 0, .int .i64 0]) ?_ 0 _ rfl; (with_reducible repeat (first | refine blk_drewN ?_ _ | refine blk_drew ?_ | refine blk_alloc ?_ _)); exact BK221.out⟩
            have n3_ : Aside0 (Below w.heap.size w (((w43.setCell ⟨gb221, 0, none⟩ (.int .i64 ((rd_T36 l0_1 x46_2).f0))).setCell ⟨gb221, 1, none⟩ (.int .i64 ((rd_T36 l0_1 x46_2).f1))).setCell ⟨gb221, 2, none⟩ (.int .i64 ((rd_T36 l0_1 x46_2).f2)))) := ⟨by repeat (first | (with_reducible first | exact HB.out | apply below_alloc | apply pw_below_drewN | apply below_drew1 | refine below_set ?_ GE216.out | refine below_set ?_ GE217.out | refine below_set ?_ GE221.out) | exact HB.out)⟩
            (try clear BK216)
            (try clear BK217)
            (try clear BK221)
            (try clear HB)
            generalize (((w43.setCell ⟨gb221, 0, none⟩ (.int .i64 ((rd_T36 l0_1 x46_2).f0))).setCell ⟨gb221, 1, none⟩ (.int .i64 ((rd_T36 l0_1 x46_2).f1))).setCell ⟨gb221, 2, none⟩ (.int .i64 ((rd_T36 l0_1 x46_2).f2))) = w47 at n0_ n1_ n2_ n3_ ⊢
            have BK216 := n0_
            have BK217 := n1_
            have BK221 := n2_
            have HB := n3_
            clear n0_ n1_ n2_ n3_
            have n0_ := Aside0.mk (blk_drew BK216.out)
            have n1_ := Aside0.mk (blk_drew BK217.out)
            have n2_ := Aside0.mk (blk_drew BK221.out)
            have n3_ := Aside0.mk (below_drew1 HB.out)
            clear BK216
            clear BK217
            clear BK221
            clear HB
            have BK216 := n0_
            have BK217 := n1_
            have BK221 := n2_
            have HB := n3_
            clear n0_ n1_ n2_ n3_
            have p222 : 0 ≤ (x46_2 : Int) := of_decide_eq_true (by first | (with_reducible assumption) | assumption)
            have q222 : x46_2 < (l3_1.length : Int) := of_decide_eq_true (by first | (with_reducible assumption) | assumption)
            obtain ⟨ad222, e222, hx222_0⟩ := Kd.at_int HR3_1.out x46_2 p222 q222
            have hw222_0 := hx222_0
            cases e222
            replace hx222_0 := (HB.out.cell (World.block_lt_of_cell? w _ hx222_0)).trans hx222_0
            replace p222 := eq_true p222
            replace q222 := eq_true q222
            have p223 : 0 ≤ (x46_2 : Int) := of_decide_eq_true (by first | (with_reducible assumption) | assumption)
            have q223 : x46_2 < (l3_1.length : Int) := of_decide_eq_true (by first | (with_reducible assumption) | assumption)
            obtain ⟨ad223, e223, hx223_0⟩ := Kd.at_int HR3_1.out x46_2 p223 q223
            have hw223_0 := hx223_0
            obtain rfl : ad222 = ad223 := (by injection e223)
            replace hx223_0 := (HB.out.cell (World.block_lt_of_cell? w _ hx223_0)).trans hx223_0
            replace p223 := eq_true p223
            replace q223 := eq_true q223
            refine start_ (n := 16) (S := fun w' => w'.cell? ⟨gb217, 0, none⟩ = some (.int .i64 a3_0) ∧ w'.cell? ⟨gb217, 1, none⟩ = some (.slice (some ad222) l3_1.length c3_1) ∧ w'.cell? ⟨gb217, 2, none⟩ = some (.slice A3_2 l3_2.length c3_2) ∧ w'.cell? ⟨gb221, 0, none⟩ = some (.int .i64 ((rd_T36 l0_1 x46_2).f0)) ∧ w'.cell? ⟨gb221, 1, none⟩ = some (.int .i64 ((rd_T36 l0_1 x46_2).f1)) ∧ w'.cell? ⟨gb221, 2, none⟩ = some (.int .i64 ((rd_T36 l0_1 x46_2).f2)) ∧ w'.cell? (ad222.add (x46_2).toNat) = some (.int .i64 (rd l3_1 x46_2)) ∧ w'.cell? (ad222.add (x46_2).toNat) = some (.int .i64 (rd l3_1 x46_2))) (ds := []) #[false, false, false, false, false, false, false, false, false, false, false, false, false, false, false, false] (by kernel_rfl) rfl rfl ⟨(blk_cell BK217.out 0).trans rfl, (blk_cell BK217.out 1).trans rfl, (blk_cell BK217.out 2).trans rfl, (blk_cell BK221.out 0).trans rfl, (blk_cell BK221.out 1).trans rfl, (blk_cell BK221.out 2).trans rfl, ((HB.out.cell (World.block_lt_of_cell? w _ hw222_0)).trans hw222_0), ((HB.out.cell (World.block_lt_of_cell? w _ hw223_0)).trans hw223_0)⟩ (fun hHeld => ?_); refine with_tabW flow_certified.tab6 flow_certified.bits6 (fun HT_ HW_ => ?_)
            generalize w47.drew = w48 at BK216 BK217 BK221 HB hx222_0 hx223_0 hHeld ⊢
            refine pure_ (i := 0) (N := some 51) (v := ?_) (a' := ?_) #[true, false, false, false, false, false, false, false, false, false, false, false, false, false, false, false] rfl rfl (any_of HT_.out (by kernel_rfl)) (fun _ _ _ h => h) (Or.inl ⟨by rfl, ?_⟩) ?_ ?_
            rotate_left
            ·intro w'
             go_simp
             with_reducible rfl
            rotate_left
            ·simp only [Act.put, List.setIfInBounds_toArray, List.set_cons_zero, List.set_cons_succ, i64_w, i32_w]
             rfl
            refine pure_ (i := 2) (N := some 53) (v := ?_) (a' := ?_) #[true, false, true, false, false, false, false, false, false, false, false, false, false, false, false, false] rfl rfl (any_of HT_.out (by kernel_rfl)) (fun _ _ _ h => h) (Or.inl ⟨by rfl, ?_⟩) ?_ ?_
            rotate_left
            ·intro w'
             go_simp
             with_reducible rfl
            rotate_left
            ·simp only [Act.put, List.setIfInBounds_toArray, List.set_cons_zero, List.set_cons_succ, i64_w, i32_w]
             rfl
            refine take_ (i := 1) (N := some 52) (v := ?_) (a' := ?_) #[true, true, true, false, false, false, false, false, false, false, false, false, false, false, false, false] rfl rfl (take_ofW HT_.out HW_.out (by kernel_rfl)) (fun _ _ _ h => h) (Or.inl ⟨by rfl, ?_⟩) hHeld ?_ ?_
            rotate_left
            ·rintro w' ⟨s0, s1, s2, s3, s4, s5, s6, s7⟩
             go_simp
             with_reducible rfl
            rotate_left
            ·simp only [Act.put, List.setIfInBounds_toArray, List.set_cons_zero, List.set_cons_succ, i64_w, i32_w]
             rfl
            refine pure_ (i := 3) (N := some 54) (v := ?_) (a' := ?_) #[true, true, true, true, false, false, false, false, false, false, false, false, false, false, false, false] rfl rfl (any_of HT_.out (by kernel_rfl)) (fun _ _ _ h => h) (Or.inl ⟨by rfl, ?_⟩) ?_ ?_
            rotate_left
            ·intro w'
             go_simp
             with_reducible rfl
            rotate_left
            ·simp only [Act.put, List.setIfInBounds_toArray, List.set_cons_zero, List.set_cons_succ, i64_w, i32_w]
             rfl
            refine take_ (i := 4) (N := some 55) (v := ?_) (a' := ?_) #[true, true, true, true, true, false, false, false, false, false, false, false, false, false, false, false] rfl rfl (take_ofW HT_.out HW_.out (by kernel_rfl)) (fun _ _ _ h => h) (Or.inl ⟨by rfl, ?_⟩) hHeld ?_ ?_
            rotate_left
            ·rintro w' ⟨s0, s1, s2, s3, s4, s5, s6, s7⟩
             go_simp
             with_reducible rfl
            rotate_left
            ·simp only [Act.put, List.setIfInBounds_toArray, List.set_cons_zero, List.set_cons_succ, i64_w, i32_w]
             rfl
            refine pure_ (i := 5) (N := some 56) (v := ?_) (a' := ?_) #[true, true, true, true, true, true, false, false, false, false, false, false, false, false, false, false] rfl rfl (any_of HT_.out (by kernel_rfl)) (fun _ _ _ h => h) (Or.inl ⟨by rfl, ?_⟩) ?_ ?_
            rotate_left
            ·intro w'
             go_simp
             with_reducible rfl
            rotate_left
            ·simp only [Act.put, List.setIfInBounds_toArray, List.set_cons_zero, List.set_cons_succ, i64_w, i32_w]
             rfl
            refine pure_ (i := 6) (N := some 57) (v := ?_) (a' := ?_) #[true, true, true, true, true, true, true, false, false, false, false, false, false, false, false, false] rfl rfl (any_of HT_.out (by kernel_rfl)) (fun _ _ _ h => h) (Or.inl ⟨by rfl, ?_⟩) ?_ ?_
            rotate_left
            ·intro w'
             go_simp
             with_reducible rfl
            rotate_left
            ·simp only [Act.put, List.setIfInBounds_toArray, List.set_cons_zero, List.set_cons_succ, i64_w, i32_w]
             rfl
            refine pure_ (i := 7) (N := some 58) (v := ?_) (a' := ?_) #[true, true, true, true, true, true, true, true, false, false, false, false, false, false, false, false] rfl rfl (any_of HT_.out (by kernel_rfl)) (fun _ _ _ h => h) (Or.inl ⟨by rfl, ?_⟩) ?_ ?_
            rotate_left
            ·intro w'
             go_simp
             with_reducible rfl
            rotate_left
            ·simp only [Act.put, List.setIfInBounds_toArray, List.set_cons_zero, List.set_cons_succ, i64_w, i32_w]
             rfl
            refine pure_ (i := 9) (N := some 60) (v := ?_) (a' := ?_) #[true, true, true, true, true, true, true, true, false, true, false, false, false, false, false, false] rfl rfl (any_of HT_.out (by kernel_rfl)) (fun _ _ _ h => h) (Or.inl ⟨by rfl, ?_⟩) ?_ ?_
            rotate_left
            ·intro w'
             go_simp
             with_reducible rfl
            rotate_left
            ·simp only [Act.put, List.setIfInBounds_toArray, List.set_cons_zero, List.set_cons_succ, i64_w, i32_w]
             rfl
            refine pure_ (i := 12) (N := some 63) (v := ?_) (a' := ?_) #[true, true, true, true, true, true, true, true, false, true, false, false, true, false, false, false] rfl rfl (any_of HT_.out (by kernel_rfl)) (fun _ _ _ h => h) (Or.inl ⟨by rfl, ?_⟩) ?_ ?_
            rotate_left
            ·intro w'
             go_simp
             with_reducible rfl
            rotate_left
            ·simp only [Act.put, List.setIfInBounds_toArray, List.set_cons_zero, List.set_cons_succ, i64_w, i32_w]
             rfl
            refine take_ (i := 8) (N := some 59) (v := ?_) (a' := ?_) #[true, true, true, true, true, true, true, true, true, true, false, false, true, false, false, false] rfl rfl (take_ofW HT_.out HW_.out (by kernel_rfl)) (fun _ _ _ h => h) (Or.inl ⟨by rfl, ?_⟩) hHeld ?_ ?_
            rotate_left
            ·rintro w' ⟨s0, s1, s2, s3, s4, s5, s6, s7⟩
             go_simp
             with_reducible rfl
            rotate_left
            ·simp only [Act.put, List.setIfInBounds_toArray, List.set_cons_zero, List.set_cons_succ, i64_w, i32_w]
             rfl
            refine pure_ (i := 10) (N := some 61) (v := ?_) (a' := ?_) #[true, true, true, true, true, true, true, true, true, true, true, false, true, false, false, false] rfl rfl (any_of HT_.out (by kernel_rfl)) (fun _ _ _ h => h) (Or.inl ⟨by rfl, ?_⟩) ?_ ?_
            rotate_left
            ·intro w'
             go_simp
             with_reducible rfl
            rotate_left
            ·simp only [Act.put, List.setIfInBounds_toArray, List.set_cons_zero, List.set_cons_succ, i64_w, i32_w]
             rfl
            refine take_ (i := 11) (N := some 62) (v := ?_) (a' := ?_) #[true, true, true, true, true, true, true, true, true, true, true, true, true, false, false, false] rfl rfl (take_ofW HT_.out HW_.out (by kernel_rfl)) (fun _ _ _ h => h) (Or.inl ⟨by rfl, ?_⟩) hHeld ?_ ?_
            rotate_left
            ·rintro w' ⟨s0, s1, s2, s3, s4, s5, s6, s7⟩
             go_simp
             with_reducible rfl
            rotate_left
            ·simp only [Act.put, List.setIfInBounds_toArray, List.set_cons_zero, List.set_cons_succ, i64_w, i32_w]
             rfl
            refine take_ (i := 13) (N := some 64) (v := ?_) (a' := ?_) #[true, true, true, true, true, true, true, true, true, true, true, true, true, true, false, false] rfl rfl (take_ofW HT_.out HW_.out (by kernel_rfl)) (fun _ _ _ h => h) (Or.inl ⟨by rfl, ?_⟩) hHeld ?_ ?_
            rotate_left
            ·rintro w' ⟨s0, s1, s2, s3, s4, s5, s6, s7⟩
             go_simp
             with_reducible rfl
            rotate_left
            ·simp only [Act.put, List.setIfInBounds_toArray, List.set_cons_zero, List.set_cons_succ, i64_w, i32_w]
             rfl
            refine pure_ (i := 14) (N := some 65) (v := ?_) (a' := ?_) #[true, true, true, true, true, true, true, true, true, true, true, true, true, true, true, false] rfl rfl (any_of HT_.out (by kernel_rfl)) (fun _ _ _ h => h) (Or.inl ⟨by rfl, ?_⟩) ?_ ?_
            rotate_left
            ·intro w'
             go_simp
             with_reducible rfl
            rotate_left
            ·simp only [Act.put, List.setIfInBounds_toArray, List.set_cons_zero, List.set_cons_succ, i64_w, i32_w]
             rfl
            refine pure_ (i := 15) (N := some 66) (v := ?_) (a' := ?_) #[true, true, true, true, true, true, true, true, true, true, true, true, true, true, true, true] rfl rfl (any_of HT_.out (by kernel_rfl)) (fun _ _ _ h => h) (Or.inl ⟨by rfl, ?_⟩) ?_ ?_
            rotate_left
            ·intro w'
             go_simp
             with_reducible rfl
            rotate_left
            ·simp only [Act.put, List.setIfInBounds_toArray, List.set_cons_zero, List.set_cons_succ, i64_w, i32_w]
             rfl
            refine done_ (done_of HT_.out (by kernel_rfl)) ?_
            try go_wp2
            go_ret
            exact ⟨by first | rfl | (simp [errW_none, errW_some] <;> rfl) | (simp [*, errW_none, errW_some] <;> rfl), by repeat (first | (with_reducible first | exact HB.out | apply below_alloc | apply pw_below_drewN | apply below_drew1 | refine below_set ?_ GE216.out | refine below_set ?_ GE217.out | refine below_set ?_ GE221.out) | exact HB.out)⟩
           ·rw [if_neg c42] at H
            have c42b0 : decide (((rd_T36 l0_1 x46_2).f2) < (rd l3_1 x46_2)) = false := decide_eq_false c42
            clear c42
            have H' := Aside0.mk H
            clear H
            have p220 : 0 ≤ (x46_2 : Int) := of_decide_eq_true (by first | (with_reducible assumption) | assumption)
            have q220 : x46_2 < (l0_1.length : Int) := of_decide_eq_true (by first | (with_reducible assumption) | assumption)
            obtain ⟨ad220, e220, hx220_0, hx220_1, hx220_2⟩ := at_T36 HR0_1.out x46_2 p220 q220
            cases e220
            replace hx220_0 := (HB.out.cell (World.block_lt_of_cell? w _ hx220_0)).trans hx220_0
            replace hx220_1 := (HB.out.cell (World.block_lt_of_cell? w _ hx220_1)).trans hx220_1
            replace hx220_2 := (HB.out.cell (World.block_lt_of_cell? w _ hx220_2)).trans hx220_2
            replace p220 := eq_true p220
            replace q220 := eq_true q220
            try go_wp2_with (first | ((with_reducible refine gate_dst (N := 10) rfl ?_); (try (refine gate_guard (by rfl) ?_; dsimp only)); refine box_event ?hg (N := 10) ?hd (cs := #[.int .i64 0, .int .i64 0, .int .i64 0]) (t := 36) ?hr ?_; (case hd => rfl); (case hg => rfl); (case hr => first | (go_simp; done) | (go_simp; rfl)); intro gb221 hg w49 hbox hb; have n0_ := Aside0.mk (blk_below (g := gb216) (o := .cells #[.int .i64 a0_0, .slice (some ad220) l0_1.length c0_1] 24 (0, 0)) (by (with_reducible repeat (first | refine blk_drewN ?_ _ | refine blk_drew ?_ | refine blk_alloc ?_ _)); exact BK216.out) hb); have n1_ := Aside0.mk (blk_below (g := gb217) (o := .cells #[.int .i64 a3_0, .slice A3_1 l3_1.length c3_1, .slice A3_2 l3_2.length c3_2] 39 (0, 0)) (by (with_reducible repeat (first | refine blk_drewN ?_ _ | refine blk_drew ?_ | refine blk_alloc ?_ _)); exact BK217.out) hb); have n2_ := Aside0.mk (below_step (by repeat (first | (with_reducible first | exact HB.out | apply below_alloc | apply pw_below_drewN | apply below_drew1 | refine below_set ?_ GE216.out | refine below_set ?_ GE217.out) | exact HB.out)) hb); have n3_ := Aside0.mk (hbox); have n4_ := Aside0.mk ((by rw [hg]; exact (below_size (by repeat (first | (with_reducible first | exact HB.out | apply below_alloc | apply pw_below_drewN | apply below_drew1 | refine below_set ?_ GE216.out | refine below_set ?_ GE217.out) | exact HB.out))) : w.heap.size ≤ gb221)); have n5_ := Aside0.mk ((by rw [hg]; exact (below_size (by repeat (first | (with_reducible first | exact HB.out | apply below_alloc | apply pw_below_drewN | apply below_drew1 | refine below_set ?_ GE216.out | refine below_set ?_ GE217.out) | exact HB.out))) : w.heap.size ≤ gb221)); have n6_ := Aside0.mk ((by rw [hg]; exact Nat.ne_of_lt (blk_lt (g := gb216) (o := .cells #[.int .i64 a0_0, .slice (some ad220) l0_1.length c0_1] 24 (0, 0)) (by (with_reducible repeat (first | refine blk_drewN ?_ _ | refine blk_drew ?_ | refine blk_alloc ?_ _)); exact BK216.out)) : gb216 ≠ gb221)); have n7_ := Aside0.mk ((by rw [hg]; exact Nat.ne_of_gt (blk_lt (g := gb216) (o := .cells #[.int .i64 a0_0, .slice (some ad220) l0_1.length c0_1] 24 (0, 0)) (by (with_reducible repeat (first | refine blk_drewN ?_ _ | refine blk_drew ?_ | refine blk_alloc ?_ _)); exact BK216.out)) : gb221 ≠ gb216)); have n8_ := Aside0.mk ((by rw [hg]; exact Nat.ne_of_lt (blk_lt (g := gb217) (o := .cells #[.int .i64 a3_0, .slice A3_1 l3_1.length c3_1, .slice A3_2 l3_2.length c3_2] 39 (0, 0)) (by (with_reducible repeat (first | refine blk_drewN ?_ _ | refine blk_drew ?_ | refine blk_alloc ?_ _)); exact BK217.out)) : gb217 ≠ gb221)); have n9_ := Aside0.mk ((by rw [hg]; exact Nat.ne_of_gt (blk_lt (g := gb217) (o := .cells #[.int .i64 a3_0, .slice A3_1 l3_1.length c3_1, .slice A3_2 l3_2.length c3_2] 39 (0, 0)) (by (with_reducible repeat (first | refine blk_drewN ?_ _ | refine blk_drew ?_ | refine blk_alloc ?_ _)); exact BK217.out)) : gb221 ≠ gb217)); clear BK216; clear BK217; clear HB; have BK216 := n0_; have BK217 := n1_; have HB := n2_; have BK221 := n3_; have GW221 := n4_; have GE221 := n5_; have NB216_221 := n6_; have NB221_216 := n7_; have NB217_221 := n8_; have NB221_217 := n9_; clear n0_ n1_ n2_ n3_ n4_ n5_ n6_ n7_ n8_ n9_; clear hb hbox hg; have hnb50 := NB221_216.out; have hnc50 := NB216_221.out; have hnb51 := NB221_217.out; have hnc51 := NB217_221.out; have hcz52_0 : w49.cell? ⟨gb221, 0, none⟩ = some (.int .i64 0) := (blk_cell BK221.out 0).trans rfl; have hcz52_1 : w49.cell? ⟨gb221, 1, none⟩ = some (.int .i64 0) := (blk_cell BK221.out 1).trans rfl; have hcz52_2 : w49.cell? ⟨gb221, 2, none⟩ = some (.int .i64 0) := (blk_cell BK221.out 2).trans rfl; have hfz52_0 := blk_frozen BK221.out 0; have hfz52_1 := blk_frozen BK221.out 1; have hfz52_2 := blk_frozen BK221.out 2))
            have n0_ : Aside0 ((((w49.setCell ⟨gb221, 0, none⟩ (.int .i64 ((rd_T36 l0_1 x46_2).f0))).setCell ⟨gb221, 1, none⟩ (.int .i64 ((rd_T36 l0_1 x46_2).f1))).setCell ⟨gb221, 2, none⟩ (.int .i64 ((rd_T36 l0_1 x46_2).f2))).heap[gb216]? = some (.cells #[.int .i64 a0_0, .slice (some ad220) l0_1.length c0_1] 24 (0, 0))) := ⟨by (with_reducible repeat (first | refine blk_drewN ?_ _ | refine blk_drew ?_ | refine blk_alloc ?_ _)); refine blk_far ?_ NB216_221.out _; (with_reducible repeat (first | refine blk_drewN ?_ _ | refine blk_drew ?_ | refine blk_alloc ?_ _)); refine blk_far ?_ NB216_221.out _; (with_reducible repeat (first | refine blk_drewN ?_ _ | refine blk_drew ?_ | refine blk_alloc ?_ _)); refine blk_far ?_ NB216_221.out _; (with_reducible repeat (first | refine blk_drewN ?_ _ | refine blk_drew ?_ | refine blk_alloc ?_ _)); exact BK216.out⟩
            have n1_ : Aside0 ((((w49.setCell ⟨gb221, 0, none⟩ (.int .i64 ((rd_T36 l0_1 x46_2).f0))).setCell ⟨gb221, 1, none⟩ (.int .i64 ((rd_T36 l0_1 x46_2).f1))).setCell ⟨gb221, 2, none⟩ (.int .i64 ((rd_T36 l0_1 x46_2).f2))).heap[gb217]? = some (.cells #[.int .i64 a3_0, .slice A3_1 l3_1.length c3_1, .slice A3_2 l3_2.length c3_2] 39 (0, 0))) := ⟨by (with_reducible repeat (first | refine blk_drewN ?_ _ | refine blk_drew ?_ | refine blk_alloc ?_ _)); refine blk_far ?_ NB217_221.out _; (with_reducible repeat (first | refine blk_drewN ?_ _ | refine blk_drew ?_ | refine blk_alloc ?_ _)); refine blk_far ?_ NB217_221.out _; (with_reducible repeat (first | refine blk_drewN ?_ _ | refine blk_drew ?_ | refine blk_alloc ?_ _)); refine blk_far ?_ NB217_221.out _; (with_reducible repeat (first | refine blk_drewN ?_ _ | refine blk_drew ?_ | refine blk_alloc ?_ _)); exact BK217.out⟩
            have n2_ : Aside0 ((((w49.setCell ⟨gb221, 0, none⟩ (.int .i64 ((rd_T36 l0_1 x46_2).f0))).setCell ⟨gb221, 1, none⟩ (.int .i64 ((rd_T36 l0_1 x46_2).f1))).setCell ⟨gb221, 2, none⟩ (.int .i64 ((rd_T36 l0_1 x46_2).f2))).heap[gb221]? = some (.cells #[.int .i64 ((rd_T36 l0_1 x46_2).f0), .int .i64 ((rd_T36 l0_1 x46_2).f1), .int .i64 ((rd_T36 l0_1 x46_2).f2)] 36 (0, 0))) := ⟨by (with_reducible repeat (first | refine blk_drewN ?_ _ | refine blk_drew ?_ | refine blk_alloc ?_ _)); refine blk_put (cs := #[.int .i64 ((rd_T36 l0_1 x46_2).f0), .int .i64 ((rd_T36 l0_1 x46_2).f1), .int .i64 0]) ?_ 2 _ rfl; (with_reducible repeat (first | refine blk_drewN ?_ _ | refine blk_drew ?_ | refine blk_alloc ?_ _)); refine blk_put (cs := #[.int .i64 ((rd_T36 l0_1 x46_2).f0), .int .i64 0, .int .i64 0]) ?_ 1 _ rfl; (with_reducible repeat (first | refine blk_drewN ?_ _ | refine blk_drew ?_ | refine blk_alloc ?_ _)); refine blk_put (cs := #[.int .i64 0, .int .i64 0, .int .i64 0]) ?_ 0 _ rfl; (with_reducible repeat (first | refine blk_drewN ?_ _ | refine blk_drew ?_ | refine blk_alloc ?_ _)); exact BK221.out⟩
            have n3_ : Aside0 (Below w.heap.size w (((w49.setCell ⟨gb221, 0, none⟩ (.int .i64 ((rd_T36 l0_1 x46_2).f0))).setCell ⟨gb221, 1, none⟩ (.int .i64 ((rd_T36 l0_1 x46_2).f1))).setCell ⟨gb221, 2, none⟩ (.int .i64 ((rd_T36 l0_1 x46_2).f2)))) := ⟨by repeat (first | (with_reducible first | exact HB.out | apply below_alloc | apply pw_below_drewN | apply below_drew1 | refine below_set ?_ GE216.out | refine below_set ?_ GE217.out | refine below_set ?_ GE221.out) | exact HB.out)⟩
            (try clear BK216)
            (try clear BK217)
            (try clear BK221)
            (try clear HB)
            generalize (((w49.setCell ⟨gb221, 0, none⟩ (.int .i64 ((rd_T36 l0_1 x46_2).f0))).setCell ⟨gb221, 1, none⟩ (.int .i64 ((rd_T36 l0_1 x46_2).f1))).setCell ⟨gb221, 2, none⟩ (.int .i64 ((rd_T36 l0_1 x46_2).f2))) = w53 at n0_ n1_ n2_ n3_ ⊢
            have BK216 := n0_
            have BK217 := n1_
            have BK221 := n2_
            have HB := n3_
            clear n0_ n1_ n2_ n3_
            have n0_ := Aside0.mk (blk_drew BK216.out)
            have n1_ := Aside0.mk (blk_drew BK217.out)
            have n2_ := Aside0.mk (blk_drew BK221.out)
            have n3_ := Aside0.mk (below_drew1 HB.out)
            clear BK216
            clear BK217
            clear BK221
            clear HB
            have BK216 := n0_
            have BK217 := n1_
            have BK221 := n2_
            have HB := n3_
            clear n0_ n1_ n2_ n3_
            have p222 : 0 ≤ (x46_2 : Int) := of_decide_eq_true (by first | (with_reducible assumption) | assumption)
            have q222 : x46_2 < (l3_1.length : Int) := of_decide_eq_true (by first | (with_reducible assumption) | assumption)
            obtain ⟨ad222, e222, hx222_0⟩ := Kd.at_int HR3_1.out x46_2 p222 q222
            have hw222_0 := hx222_0
            cases e222
            replace hx222_0 := (HB.out.cell (World.block_lt_of_cell? w _ hx222_0)).trans hx222_0
            replace p222 := eq_true p222
            replace q222 := eq_true q222
            have p223 : 0 ≤ (x46_2 : Int) := of_decide_eq_true (by first | (with_reducible assumption) | assumption)
            have q223 : x46_2 < (l3_1.length : Int) := of_decide_eq_true (by first | (with_reducible assumption) | assumption)
            obtain ⟨ad223, e223, hx223_0⟩ := Kd.at_int HR3_1.out x46_2 p223 q223
            have hw223_0 := hx223_0
            obtain rfl : ad222 = ad223 := (by injection e223)
            replace hx223_0 := (HB.out.cell (World.block_lt_of_cell? w _ hx223_0)).trans hx223_0
            replace p223 := eq_true p223
            replace q223 := eq_true q223
            refine start_ (n := 16) (S := fun w' => w'.cell? ⟨gb217, 0, none⟩ = some (.int .i64 a3_0) ∧ w'.cell? ⟨gb217, 1, none⟩ = some (.slice (some ad222) l3_1.length c3_1) ∧ w'.cell? ⟨gb217, 2, none⟩ = some (.slice A3_2 l3_2.length c3_2) ∧ w'.cell? ⟨gb221, 0, none⟩ = some (.int .i64 ((rd_T36 l0_1 x46_2).f0)) ∧ w'.cell? ⟨gb221, 1, none⟩ = some (.int .i64 ((rd_T36 l0_1 x46_2).f1)) ∧ w'.cell? ⟨gb221, 2, none⟩ = some (.int .i64 ((rd_T36 l0_1 x46_2).f2)) ∧ w'.cell? (ad222.add (x46_2).toNat) = some (.int .i64 (rd l3_1 x46_2)) ∧ w'.cell? (ad222.add (x46_2).toNat) = some (.int .i64 (rd l3_1 x46_2))) (ds := []) #[false, false, false, false, false, false, false, false, false, false, false, false, false, false, false, false] (by kernel_rfl) rfl rfl ⟨(blk_cell BK217.out 0).trans rfl, (blk_cell BK217.out 1).trans rfl, (blk_cell BK217.out 2).trans rfl, (blk_cell BK221.out 0).trans rfl, (blk_cell BK221.out 1).trans rfl, (blk_cell BK221.out 2).trans rfl, ((HB.out.cell (World.block_lt_of_cell? w _ hw222_0)).trans hw222_0), ((HB.out.cell (World.block_lt_of_cell? w _ hw223_0)).trans hw223_0)⟩ (fun hHeld => ?_); refine with_tabW flow_certified.tab6 flow_certified.bits6 (fun HT_ HW_ => ?_)
            generalize w53.drew = w54 at BK216 BK217 BK221 HB hx222_0 hx223_0 hHeld ⊢
            refine pure_ (i := 0) (N := some 51) (v := ?_) (a' := ?_) #[true, false, false, false, false, false, false, false, false, false, false, false, false, false, false, false] rfl rfl (any_of HT_.out (by kernel_rfl)) (fun _ _ _ h => h) (Or.inl ⟨by rfl, ?_⟩) ?_ ?_
            rotate_left
            ·intro w'
             go_simp
             with_reducible rfl
            rotate_left
            ·simp only [Act.put, List.setIfInBounds_toArray, List.set_cons_zero, List.set_cons_succ, i64_w, i32_w]
             rfl
            refine pure_ (i := 2) (N := some 53) (v := ?_) (a' := ?_) #[true, false, true, false, false, false, false, false, false, false, false, false, false, false, false, false] rfl rfl (any_of HT_.out (by kernel_rfl)) (fun _ _ _ h => h) (Or.inl ⟨by rfl, ?_⟩) ?_ ?_
            rotate_left
            ·intro w'
             go_simp
             with_reducible rfl
            rotate_left
            ·simp only [Act.put, List.setIfInBounds_toArray, List.set_cons_zero, List.set_cons_succ, i64_w, i32_w]
             rfl
            refine take_ (i := 1) (N := some 52) (v := ?_) (a' := ?_) #[true, true, true, false, false, false, false, false, false, false, false, false, false, false, false, false] rfl rfl (take_ofW HT_.out HW_.out (by kernel_rfl)) (fun _ _ _ h => h) (Or.inl ⟨by rfl, ?_⟩) hHeld ?_ ?_
            rotate_left
            ·rintro w' ⟨s0, s1, s2, s3, s4, s5, s6, s7⟩
             go_simp
             with_reducible rfl
            rotate_left
            ·simp only [Act.put, List.setIfInBounds_toArray, List.set_cons_zero, List.set_cons_succ, i64_w, i32_w]
             rfl
            refine pure_ (i := 3) (N := some 54) (v := ?_) (a' := ?_) #[true, true, true, true, false, false, false, false, false, false, false, false, false, false, false, false] rfl rfl (any_of HT_.out (by kernel_rfl)) (fun _ _ _ h => h) (Or.inl ⟨by rfl, ?_⟩) ?_ ?_
            rotate_left
            ·intro w'
             go_simp
             with_reducible rfl
            rotate_left
            ·simp only [Act.put, List.setIfInBounds_toArray, List.set_cons_zero, List.set_cons_succ, i64_w, i32_w]
             rfl
            refine take_ (i := 4) (N := some 55) (v := ?_) (a' := ?_) #[true, true, true, true, true, false, false, false, false, false, false, false, false, false, false, false] rfl rfl (take_ofW HT_.out HW_.out (by kernel_rfl)) (fun _ _ _ h => h) (Or.inl ⟨by rfl, ?_⟩) hHeld ?_ ?_
            rotate_left
            ·rintro w' ⟨s0, s1, s2, s3, s4, s5, s6, s7⟩
             go_simp
             with_reducible rfl
            rotate_left
            ·simp only [Act.put, List.setIfInBounds_toArray, List.set_cons_zero, List.set_cons_succ, i64_w, i32_w]
             rfl
            refine pure_ (i := 5) (N := some 56) (v := ?_) (a' := ?_) #[true, true, true, true, true, true, false, false, false, false, false, false, false, false, false, false] rfl rfl (any_of HT_.out (by kernel_rfl)) (fun _ _ _ h => h) (Or.inl ⟨by rfl, ?_⟩) ?_ ?_
            rotate_left
            ·intro w'
             go_simp
             with_reducible rfl
            rotate_left
            ·simp only [Act.put, List.setIfInBounds_toArray, List.set_cons_zero, List.set_cons_succ, i64_w, i32_w]
             rfl
            refine pure_ (i := 6) (N := some 57) (v := ?_) (a' := ?_) #[true, true, true, true, true, true, true, false, false, false, false, false, false, false, false, false] rfl rfl (any_of HT_.out (by kernel_rfl)) (fun _ _ _ h => h) (Or.inl ⟨by rfl, ?_⟩) ?_ ?_
            rotate_left
            ·intro w'
             go_simp
             with_reducible rfl
            rotate_left
            ·simp only [Act.put, List.setIfInBounds_toArray, List.set_cons_zero, List.set_cons_succ, i64_w, i32_w]
             rfl
            refine pure_ (i := 7) (N := some 58) (v := ?_) (a' := ?_) #[true, true, true, true, true, true, true, true, false, false, false, false, false, false, false, false] rfl rfl (any_of HT_.out (by kernel_rfl)) (fun _ _ _ h => h) (Or.inl ⟨by rfl, ?_⟩) ?_ ?_
            rotate_left
            ·intro w'
             go_simp
             with_reducible rfl
            rotate_left
            ·simp only [Act.put, List.setIfInBounds_toArray, List.set_cons_zero, List.set_cons_succ, i64_w, i32_w]
             rfl
            refine pure_ (i := 9) (N := some 60) (v := ?_) (a' := ?_) #[true, true, true, true, true, true, true, true, false, true, false, false, false, false, false, false] rfl rfl (any_of HT_.out (by kernel_rfl)) (fun _ _ _ h => h) (Or.inl ⟨by rfl, ?_⟩) ?_ ?_
            rotate_left
            ·intro w'
             go_simp
             with_reducible rfl
            rotate_left
            ·simp only [Act.put, List.setIfInBounds_toArray, List.set_cons_zero, List.set_cons_succ, i64_w, i32_w]
             rfl
            refine pure_ (i := 12) (N := some 63) (v := ?_) (a' := ?_) #[true, true, true, true, true, true, true, true, false, true, false, false, true, false, false, false] rfl rfl (any_of HT_.out (by kernel_rfl)) (fun _ _ _ h => h) (Or.inl ⟨by rfl, ?_⟩) ?_ ?_
            rotate_left
            ·intro w'
             go_simp
             with_reducible rfl
            rotate_left
            ·simp only [Act.put, List.setIfInBounds_toArray, List.set_cons_zero, List.set_cons_succ, i64_w, i32_w]
             rfl
            refine take_ (i := 8) (N := some 59) (v := ?_) (a' := ?_) #[true, true, true, true, true, true, true, true, true, true, false, false, true, false, false, false] rfl rfl (take_ofW HT_.out HW_.out (by kernel_rfl)) (fun _ _ _ h => h) (Or.inl ⟨by rfl, ?_⟩) hHeld ?_ ?_
            rotate_left
            ·rintro w' ⟨s0, s1, s2, s3, s4, s5, s6, s7⟩
             go_simp
             with_reducible rfl
            rotate_left
            ·simp only [Act.put, List.setIfInBounds_toArray, List.set_cons_zero, List.set_cons_succ, i64_w, i32_w]
             rfl
            refine pure_ (i := 10) (N := some 61) (v := ?_) (a' := ?_) #[true, true, true, true, true, true, true, true, true, true, true, false, true, false, false, false] rfl rfl (any_of HT_.out (by kernel_rfl)) (fun _ _ _ h => h) (Or.inl ⟨by rfl, ?_⟩) ?_ ?_
            rotate_left
            ·intro w'
             go_simp
             with_reducible rfl
            rotate_left
            ·simp only [Act.put, List.setIfInBounds_toArray, List.set_cons_zero, List.set_cons_succ, i64_w, i32_w]
             rfl
            refine take_ (i := 11) (N := some 62) (v := ?_) (a' := ?_) #[true, true, true, true, true, true, true, true, true, true, true, true, true, false, false, false] rfl rfl (take_ofW HT_.out HW_.out (by kernel_rfl)) (fun _ _ _ h => h) (Or.inl ⟨by rfl, ?_⟩) hHeld ?_ ?_
            rotate_left
            ·rintro w' ⟨s0, s1, s2, s3, s4, s5, s6, s7⟩
             go_simp
             with_reducible rfl
            rotate_left
            ·simp only [Act.put, List.setIfInBounds_toArray, List.set_cons_zero, List.set_cons_succ, i64_w, i32_w]
             rfl
            refine take_ (i := 13) (N := some 64) (v := ?_) (a' := ?_) #[true, true, true, true, true, true, true, true, true, true, true, true, true, true, false, false] rfl rfl (take_ofW HT_.out HW_.out (by kernel_rfl)) (fun _ _ _ h => h) (Or.inl ⟨by rfl, ?_⟩) hHeld ?_ ?_
            rotate_left
            ·rintro w' ⟨s0, s1, s2, s3, s4, s5, s6, s7⟩
             go_simp
             with_reducible rfl
            rotate_left
            ·simp only [Act.put, List.setIfInBounds_toArray, List.set_cons_zero, List.set_cons_succ, i64_w, i32_w]
             rfl
            refine pure_ (i := 14) (N := some 65) (v := ?_) (a' := ?_) #[true, true, true, true, true, true, true, true, true, true, true, true, true, true, true, false] rfl rfl (any_of HT_.out (by kernel_rfl)) (fun _ _ _ h => h) (Or.inl ⟨by rfl, ?_⟩) ?_ ?_
            rotate_left
            ·intro w'
             go_simp
             with_reducible rfl
            rotate_left
            ·simp only [Act.put, List.setIfInBounds_toArray, List.set_cons_zero, List.set_cons_succ, i64_w, i32_w]
             rfl
            refine pure_ (i := 15) (N := some 66) (v := ?_) (a' := ?_) #[true, true, true, true, true, true, true, true, true, true, true, true, true, true, true, true] rfl rfl (any_of HT_.out (by kernel_rfl)) (fun _ _ _ h => h) (Or.inl ⟨by rfl, ?_⟩) ?_ ?_
            rotate_left
            ·intro w'
             go_simp
             with_reducible rfl
            rotate_left
            ·simp only [Act.put, List.setIfInBounds_toArray, List.set_cons_zero, List.set_cons_succ, i64_w, i32_w]
             rfl
            refine done_ (done_of HT_.out (by kernel_rfl)) ?_
            try go_wp2
            go_roundg k2
            case measure => have := HJ4.out; have := HK2.out; omega
            case rel => exact ⟨(wrap64 (x46_2 + 1)), (by first | rfl | (simp; done) | (simp [*]; done)), H', ⟨by have := HJ4.out; have := HK2.out; omega⟩, ⟨by (with_reducible repeat (first | refine blk_drewN ?_ _ | refine blk_drew ?_ | refine blk_alloc ?_ _)); exact BK216.out⟩, ⟨by (with_reducible repeat (first | refine blk_drewN ?_ _ | refine blk_drew ?_ | refine blk_alloc ?_ _)); exact BK217.out⟩, ⟨by repeat (first | (with_reducible first | exact HB.out | apply below_alloc | apply pw_below_drewN | apply below_drew1 | refine below_set ?_ GE216.out | refine below_set ?_ GE217.out | refine below_set ?_ GE221.out) | exact HB.out)⟩⟩
         ·rw [if_neg c34] at H
          exact absurd H (by simp)
        ·rw [if_neg c33] at H
         exact absurd H (by simp)
       ·rw [if_neg c32] at H
        exact absurd H (by simp)
      ·rw [if_neg c31] at H
       have c31b0 : decide (x46_2 < (l0_1.length : Int)) = false := decide_eq_false c31
       clear c31
       replace H := Option.bind_eq_some_iff.mp H
       obtain ⟨t224, A550, H⟩ := H
       replace H : (flow_certified.l1 k2 a1 a2 t224 (t224.length : Int) 0 a0_0 l0_1 a3_0 l3_1 l3_2) = some r := H
       have A55 := Aside0.mk A550
       clear A550
       have H' := Aside0.mk H
       clear H
       have hnb56 := NB216_217.out
       have hnc56 := NB217_216.out
       have hcz57_0 : wr.cell? ⟨gb216, 0, none⟩ = some (.int .i64 a0_0) := (blk_cell BK216.out 0).trans rfl
       have hcz57_1 : wr.cell? ⟨gb216, 1, none⟩ = some (.slice A0_1 l0_1.length c0_1) := (blk_cell BK216.out 1).trans rfl
       have hfz57_0 := blk_frozen BK216.out 0
       have hfz57_1 := blk_frozen BK216.out 1
       have hcz58_0 : wr.cell? ⟨gb217, 0, none⟩ = some (.int .i64 a3_0) := (blk_cell BK217.out 0).trans rfl
       have hcz58_1 : wr.cell? ⟨gb217, 1, none⟩ = some (.slice A3_1 l3_1.length c3_1) := (blk_cell BK217.out 1).trans rfl
       have hcz58_2 : wr.cell? ⟨gb217, 2, none⟩ = some (.slice A3_2 l3_2.length c3_2) := (blk_cell BK217.out 2).trans rfl
       have hfz58_0 := blk_frozen BK217.out 0
       have hfz58_1 := blk_frozen BK217.out 1
       have hfz58_2 := blk_frozen BK217.out 2
       go_wp2_with (first | ((with_reducible refine gate_callee (f := 37) rfl ?_); refine goesL_ (some 71) rfl rfl Try.func37 (by kernel_rfl) rfl #[.agg #[.int .i64 a0_0, .slice A0_1 l0_1.length c0_1], .slice A3_1 l3_1.length c3_1] rfl (by (try simp only [List.map_toArray, List.map_cons, List.map_nil]); first | done | rfl | (simp only [List.length_drop, List.length_take]; rfl)) ?_; (with_reducible refine (flow_net.calls k2 a0_0 _ _ l0_1 _ _ l3_1 t224 _ ?side1 ?side2 ?side3 ?side4 A55.out).mono ?_); (case side1 => repeat (first | exact (Kd.C_below HR0_1.out HB.out) | (with_reducible refine Kd.C_alloc ?_ _) | (with_reducible refine Kd.C_drewN ?_ _) | (with_reducible refine Kd.C_drew ?_))); (case side2 => exact HC0_1.out); (case side3 => repeat (first | exact (Kd.C_below HR3_1.out HB.out) | (with_reducible refine Kd.C_alloc ?_ _) | (with_reducible refine Kd.C_drewN ?_ _) | (with_reducible refine Kd.C_drew ?_))); (case side4 => exact HC3_1.out); rintro e w59 ⟨v225, rfl, ho0, hb⟩; refine ⟨_, rfl, ?_⟩; have n0_ := Aside0.mk (Kd.R_lower ho0 (below_size (by repeat (first | (with_reducible first | exact HB.out | apply below_alloc | apply pw_below_drewN | apply below_drew1 | refine below_set ?_ GE216.out | refine below_set ?_ GE217.out) | exact HB.out)))); have n1_ := Aside0.mk (blk_below (g := gb216) (o := .cells #[.int .i64 a0_0, .slice A0_1 l0_1.length c0_1] 24 (0, 0)) (by (with_reducible repeat (first | refine blk_drewN ?_ _ | refine blk_drew ?_ | refine blk_alloc ?_ _)); exact BK216.out) hb); have n2_ := Aside0.mk (blk_below (g := gb217) (o := .cells #[.int .i64 a3_0, .slice A3_1 l3_1.length c3_1, .slice A3_2 l3_2.length c3_2] 39 (0, 0)) (by (with_reducible repeat (first | refine blk_drewN ?_ _ | refine blk_drew ?_ | refine blk_alloc ?_ _)); exact BK217.out) hb); have n3_ := Aside0.mk (below_step (by repeat (first | (with_reducible first | exact HB.out | apply below_alloc | apply pw_below_drewN | apply below_drew1 | refine below_set ?_ GE216.out | refine below_set ?_ GE217.out) | exact HB.out)) hb); clear BK216; clear BK217; clear HB; have HO226 := n0_; have BK216 := n1_; have BK217 := n2_; have HB := n3_; clear n0_ n1_ n2_ n3_; (try clear hb); (try clear hb2); (try clear hk); (try clear hi); (try clear ho0); obtain ⟨Ao60, co60, eo60⟩ := Kd.R_slice HO226.out; subst eo60))
       go_loopg [73] k2 (fun kq v73 w' => ∃ (x73_3 : Int), v73 = .int .i64 x73_3 ∧ Aside0 (flow_certified.l1 kq a1 a2 t224 (t224.length : Int) x73_3 a0_0 l0_1 a3_0 l3_1 l3_2 = some r) ∧ Aside0 (kq ≤ k2) ∧ Aside0 (Kd.R (Kd.int .i64) 3 w' w.heap.size (fun _ => True) (.slice Ao60 t224.length co60) t224) ∧ Aside0 (w'.heap[gb216]? = some (.cells #[.int .i64 a0_0, (.slice A0_1 l0_1.length c0_1)] 24 (0, 0))) ∧ Aside0 (w'.heap[gb217]? = some (.cells #[.int .i64 a3_0, (.slice A3_1 l3_1.length c3_1), (.slice A3_2 l3_2.length c3_2)] 39 (0, 0))) ∧ Aside0 (Below w.heap.size w w'))
       case atStart => exact ⟨(0), (by first | rfl | (simp; done) | (simp [*]; done)), H', ⟨Nat.le_refl _⟩, ⟨by (with_reducible repeat (first | apply Kd.R_alloc | apply Kd.R_drewN | apply Kd.R_drew)); exact HO226.out⟩, ⟨by (with_reducible repeat (first | refine blk_drewN ?_ _ | refine blk_drew ?_ | refine blk_alloc ?_ _)); exact BK216.out⟩, ⟨by (with_reducible repeat (first | refine blk_drewN ?_ _ | refine blk_drew ?_ | refine blk_alloc ?_ _)); exact BK217.out⟩, ⟨by repeat (first | (with_reducible first | exact HB.out | apply below_alloc | apply pw_below_drewN | apply below_drew1 | refine below_set ?_ GE216.out | refine below_set ?_ GE217.out) | exact HB.out)⟩⟩
       case round =>
        clear H'
        try clear p2
        try clear q2
        try clear hx2
        try clear c3
        try clear c4
        try clear c5
        try clear p6
        try clear q21
        try clear p22
        try clear q22
        try clear hx22
        try clear c31
        try clear c31b0
        try clear c32
        try clear c32b0
        try clear c33
        try clear c33b0
        try clear c34
        try clear c34b0
        try clear c35
        try clear c35b0
        try clear c37
        try clear c38
        try clear c42
        try clear c42b0
        try clear c44
        try clear c45
        try clear c50
        try clear c51
        try clear c56
        try clear hcz39_0
        try clear hcz39_1
        try clear hcz39_2
        try clear hcz46_0
        try clear hcz46_1
        try clear hcz46_2
        try clear hcz52_0
        try clear hcz52_1
        try clear hcz52_2
        try clear hcz57_0
        try clear hcz57_1
        try clear hcz58_0
        try clear hcz58_1
        try clear hcz58_2
        try clear hfz39_0
        try clear hfz39_1
        try clear hfz39_2
        try clear hfz46_0
        try clear hfz46_1
        try clear hfz46_2
        try clear hfz52_0
        try clear hfz52_1
        try clear hfz52_2
        try clear hfz57_0
        try clear hfz57_1
        try clear hfz58_0
        try clear hfz58_1
        try clear hfz58_2
        try clear hx220_0
        try clear hx220_1
        try clear hx220_2
        try clear hx222_0
        try clear hx223_0
        try clear p220
        try clear p222
        try clear p223
        try clear q2
        try clear q21
        try clear q218
        try clear q219
        try clear q220
        try clear q222
        try clear q223
        obtain ⟨x73_3, rfl, HA, HK3, HO_71, BK216, BK217, HB⟩ := hrel
        cases gk with
        | zero => exact absurd HA.out (by simp [flow_certified.l1])
        | succ k3 =>
         have H := HA.out
         clear HA
         simp only [flow_certified.l1] at H
         by_cases c61 : x73_3 < (t224.length : Int)
         ·rw [if_pos c61] at H
          have c61b0 : decide (x73_3 < (t224.length : Int)) = true := decide_eq_true c61
          clear c61
          by_cases c62 : 0 ≤ x73_3
          ·rw [if_pos c62] at H
           have c62b0 : decide (0 ≤ x73_3) = true := decide_eq_true c62
           clear c62
           by_cases c63 : x73_3 < (t224.length : Int)
           ·rw [if_pos c63] at H
            have c63b0 : decide (x73_3 < (t224.length : Int)) = true := decide_eq_true c63
            clear c63
            by_cases c64 : x73_3 = a1
            ·rw [if_pos c64] at H
             have c64b0 : (x73_3 == a1) = true := beq_iff_eq.mpr c64
             have c64b1 : (x73_3 != a1) = false := bne_eq_false_iff_eq.mpr c64
             clear c64
             by_cases c65 : (rd t224 x73_3) = a3_0
             ·rw [if_pos c65] at H
              have c65b0 : ((rd t224 x73_3) == a3_0) = true := beq_iff_eq.mpr c65
              have c65b1 : ((rd t224 x73_3) != a3_0) = false := bne_eq_false_iff_eq.mpr c65
              clear c65
              have H' := Aside0.mk H
              clear H
              have p227 : 0 ≤ (x73_3 : Int) := of_decide_eq_true (by first | (with_reducible assumption) | assumption)
              have q227 : x73_3 < (t224.length : Int) := of_decide_eq_true (by first | (with_reducible assumption) | assumption)
              obtain ⟨ad227, e227, hx227_0⟩ := Kd.at_int (Kd.R_reads' HO_71.out).2.2 x73_3 p227 q227
              cases e227
              replace p227 := eq_true p227
              replace q227 := eq_true q227
              have hnb66 := NB217_216.out
              have hnc66 := NB216_217.out
              have hcz67_0 : wr.cell? ⟨gb217, 0, none⟩ = some (.int .i64 a3_0) := (blk_cell BK217.out 0).trans rfl
              have hcz67_1 : wr.cell? ⟨gb217, 1, none⟩ = some (.slice A3_1 l3_1.length c3_1) := (blk_cell BK217.out 1).trans rfl
              have hcz67_2 : wr.cell? ⟨gb217, 2, none⟩ = some (.slice A3_2 l3_2.length c3_2) := (blk_cell BK217.out 2).trans rfl
              have hfz67_0 := blk_frozen BK217.out 0
              have hfz67_1 := blk_frozen BK217.out 1
              have hfz67_2 := blk_frozen BK217.out 2
              go_wp2
              go_roundg k3
              case measure => have := HJ4.out; have := HK2.out; have := HK3.out; omega
              case rel => exact ⟨(wrap64 (x73_3 + 1)), (by first | rfl | (simp; done) | (simp [*]; done)), H', ⟨by have := HJ4.out; have := HK2.out; have := HK3.out; omega⟩, ⟨by (with_reducible repeat (first | apply Kd.R_alloc | apply Kd.R_drewN | apply Kd.R_drew)); exact HO_71.out⟩, ⟨by (with_reducible repeat (first | refine blk_drewN ?_ _ | refine blk_drew ?_ | refine blk_alloc ?_ _)); exact BK216.out⟩, ⟨by (with_reducible repeat (first | refine blk_drewN ?_ _ | refine blk_drew ?_ | refine blk_alloc ?_ _)); exact BK217.out⟩, ⟨by repeat (first | (with_reducible first | exact HB.out | apply below_alloc | apply pw_below_drewN | apply below_drew1 | refine below_set ?_ GE216.out | refine below_set ?_ GE217.out) | exact HB.out)⟩⟩
             ·rw [if_neg c65] at H
              have c65b0 : ((rd t224 x73_3) == a3_0) = false := beq_eq_false_iff_ne.mpr c65
              have c65b1 : ((rd t224 x73_3) != a3_0) = true := bne_iff_ne.mpr c65
              obtain rfl := Option.some.inj H
              have p227 : 0 ≤ (x73_3 : Int) := of_decide_eq_true (by first | (with_reducible assumption) | assumption)
              have q227 : x73_3 < (t224.length : Int) := of_decide_eq_true (by first | (with_reducible assumption) | assumption)
              obtain ⟨ad227, e227, hx227_0⟩ := Kd.at_int (Kd.R_reads' HO_71.out).2.2 x73_3 p227 q227
              cases e227
              replace p227 := eq_true p227
              replace q227 := eq_true q227
              have hnb68 := NB217_216.out
              have hnc68 := NB216_217.out
              have hcz69_0 : wr.cell? ⟨gb217, 0, none⟩ = some (.int .i64 a3_0) := (blk_cell BK217.out 0).trans rfl
              have hcz69_1 : wr.cell? ⟨gb217, 1, none⟩ = some (.slice A3_1 l3_1.length c3_1) := (blk_cell BK217.out 1).trans rfl
              have hcz69_2 : wr.cell? ⟨gb217, 2, none⟩ = some (.slice A3_2 l3_2.length c3_2) := (blk_cell BK217.out 2).trans rfl
              have hfz69_0 := blk_frozen BK217.out 0
              have hfz69_1 := blk_frozen BK217.out 1
              have hfz69_2 := blk_frozen BK217.out 2
              go_wp2
              go_ret
              exact ⟨by first | rfl | (simp [errW_none, errW_some] <;> rfl) | (simp [*, errW_none, errW_some] <;> rfl), by repeat (first | (with_reducible first | exact HB.out | apply below_alloc | apply pw_below_drewN | apply below_drew1 | refine below_set ?_ GE216.out | refine below_set ?_ GE217.out) | exact HB.out)⟩
            ·rw [if_neg c64] at H
             have c64b0 : (x73_3 == a1) = false := beq_eq_false_iff_ne.mpr c64
             have c64b1 : (x73_3 != a1) = true := bne_iff_ne.mpr c64
             by_cases c70 : x73_3 = a2
             ·rw [if_pos c70] at H
              have c70b0 : (x73_3 == a2) = true := beq_iff_eq.mpr c70
              have c70b1 : (x73_3 != a2) = false := bne_eq_false_iff_eq.mpr c70
              clear c70
              have H' := Aside0.mk H
              clear H
              have p227 : 0 ≤ (x73_3 : Int) := of_decide_eq_true (by first | (with_reducible assumption) | assumption)
              have q227 : x73_3 < (t224.length : Int) := of_decide_eq_true (by first | (with_reducible assumption) | assumption)
              obtain ⟨ad227, e227, hx227_0⟩ := Kd.at_int (Kd.R_reads' HO_71.out).2.2 x73_3 p227 q227
              cases e227
              replace p227 := eq_true p227
              replace q227 := eq_true q227
              go_wp2
              go_roundg k3
              case measure => have := HJ4.out; have := HK2.out; have := HK3.out; omega
              case rel => exact ⟨(wrap64 (x73_3 + 1)), (by first | rfl | (simp; done) | (simp [*]; done)), H', ⟨by have := HJ4.out; have := HK2.out; have := HK3.out; omega⟩, ⟨by (with_reducible repeat (first | apply Kd.R_alloc | apply Kd.R_drewN | apply Kd.R_drew)); exact HO_71.out⟩, ⟨by (with_reducible repeat (first | refine blk_drewN ?_ _ | refine blk_drew ?_ | refine blk_alloc ?_ _)); exact BK216.out⟩, ⟨by (with_reducible repeat (first | refine blk_drewN ?_ _ | refine blk_drew ?_ | refine blk_alloc ?_ _)); exact BK217.out⟩, ⟨by repeat (first | (with_reducible first | exact HB.out | apply below_alloc | apply pw_below_drewN | apply below_drew1 | refine below_set ?_ GE216.out | refine below_set ?_ GE217.out) | exact HB.out)⟩⟩
             ·rw [if_neg c70] at H
              have c70b0 : (x73_3 == a2) = false := beq_eq_false_iff_ne.mpr c70
              have c70b1 : (x73_3 != a2) = true := bne_iff_ne.mpr c70
              by_cases c71 : (rd t224 x73_3) = 0
              ·rw [if_pos c71] at H
               have c71b0 : ((rd t224 x73_3) == 0) = true := beq_iff_eq.mpr c71
               have c71b1 : ((rd t224 x73_3) != 0) = false := bne_eq_false_iff_eq.mpr c71
               clear c71
               have H' := Aside0.mk H
               clear H
               have p227 : 0 ≤ (x73_3 : Int) := of_decide_eq_true (by first | (with_reducible assumption) | assumption)
               have q227 : x73_3 < (t224.length : Int) := of_decide_eq_true (by first | (with_reducible assumption) | assumption)
               obtain ⟨ad227, e227, hx227_0⟩ := Kd.at_int (Kd.R_reads' HO_71.out).2.2 x73_3 p227 q227
               cases e227
               replace p227 := eq_true p227
               replace q227 := eq_true q227
               go_wp2
               go_roundg k3
               case measure => have := HJ4.out; have := HK2.out; have := HK3.out; omega
               case rel => exact ⟨(wrap64 (x73_3 + 1)), (by first | rfl | (simp; done) | (simp [*]; done)), H', ⟨by have := HJ4.out; have := HK2.out; have := HK3.out; omega⟩, ⟨by (with_reducible repeat (first | apply Kd.R_alloc | apply Kd.R_drewN | apply Kd.R_drew)); exact HO_71.out⟩, ⟨by (with_reducible repeat (first | refine blk_drewN ?_ _ | refine blk_drew ?_ | refine blk_alloc ?_ _)); exact BK216.out⟩, ⟨by (with_reducible repeat (first | refine blk_drewN ?_ _ | refine blk_drew ?_ | refine blk_alloc ?_ _)); exact BK217.out⟩, ⟨by repeat (first | (with_reducible first | exact HB.out | apply below_alloc | apply pw_below_drewN | apply below_drew1 | refine below_set ?_ GE216.out | refine below_set ?_ GE217.out) | exact HB.out)⟩⟩
              ·rw [if_neg c71] at H
               have c71b0 : ((rd t224 x73_3) == 0) = false := beq_eq_false_iff_ne.mpr c71
               have c71b1 : ((rd t224 x73_3) != 0) = true := bne_iff_ne.mpr c71
               obtain rfl := Option.some.inj H
               have p227 : 0 ≤ (x73_3 : Int) := of_decide_eq_true (by first | (with_reducible assumption) | assumption)
               have q227 : x73_3 < (t224.length : Int) := of_decide_eq_true (by first | (with_reducible assumption) | assumption)
               obtain ⟨ad227, e227, hx227_0⟩ := Kd.at_int (Kd.R_reads' HO_71.out).2.2 x73_3 p227 q227
               cases e227
               replace p227 := eq_true p227
               replace q227 := eq_true q227
               go_wp2
               go_ret
               exact ⟨by first | rfl | (simp [errW_none, errW_some] <;> rfl) | (simp [*, errW_none, errW_some] <;> rfl), by repeat (first | (with_reducible first | exact HB.out | apply below_alloc | apply pw_below_drewN | apply below_drew1 | refine below_set ?_ GE216.out | refine below_set ?_ GE217.out) | exact HB.out)⟩
           ·rw [if_neg c63] at H
            exact absurd H (by simp)
          ·rw [if_neg c62] at H
           exact absurd H (by simp)
         ·rw [if_neg c61] at H
          have c61b0 : decide (x73_3 < (t224.length : Int)) = false := decide_eq_false c61
          clear c61
          replace H := Option.bind_eq_some_iff.mp H
          obtain ⟨t228, A720, H⟩ := H
          replace H : (some (t228 == a3_0)) = some r := H
          have A72 := Aside0.mk A720
          clear A720
          obtain rfl := Option.some.inj H
          try go_wp2
          have n0_ := Aside0.mk (Kd.R_drew HO_71.out)
          have n1_ := Aside0.mk (blk_drew BK216.out)
          have n2_ := Aside0.mk (blk_drew BK217.out)
          have n3_ := Aside0.mk (below_drew1 HB.out)
          clear HO_71
          clear BK216
          clear BK217
          clear HB
          have HO_71 := n0_
          have BK216 := n1_
          have BK217 := n2_
          have HB := n3_
          clear n0_ n1_ n2_ n3_
          refine start_ (n := 8) (S := fun w' => w'.cell? ⟨gb216, 0, none⟩ = some (.int .i64 a0_0) ∧ w'.cell? ⟨gb216, 1, none⟩ = some (.slice A0_1 l0_1.length c0_1) ∧ w'.cell? ⟨gb217, 0, none⟩ = some (.int .i64 a3_0) ∧ w'.cell? ⟨gb217, 1, none⟩ = some (.slice A3_1 l3_1.length c3_1) ∧ w'.cell? ⟨gb217, 2, none⟩ = some (.slice A3_2 l3_2.length c3_2)) (ds := []) #[false, false, false, false, false, false, false, false] (by kernel_rfl) rfl rfl ⟨(blk_cell BK216.out 0).trans rfl, (blk_cell BK216.out 1).trans rfl, (blk_cell BK217.out 0).trans rfl, (blk_cell BK217.out 1).trans rfl, (blk_cell BK217.out 2).trans rfl⟩ (fun hHeld => ?_); refine with_tabW flow_certified.tab15 flow_certified.bits15 (fun HT_ HW_ => ?_)
          generalize wr.drew = w73 at HO_71 BK216 BK217 HB hHeld ⊢
          refine pure_ (i := 1) (N := some 103) (v := ?_) (a' := ?_) #[false, true, false, false, false, false, false, false] rfl rfl (any_of HT_.out (by kernel_rfl)) (fun _ _ _ h => h) (Or.inl ⟨by rfl, ?_⟩) ?_ ?_
          rotate_left
          ·intro w'
           go_simp
           with_reducible rfl
          rotate_left
          ·simp only [Act.put, List.setIfInBounds_toArray, List.set_cons_zero, List.set_cons_succ, i64_w, i32_w]
           rfl
          refine pure_ (i := 4) (N := some 106) (v := ?_) (a' := ?_) #[false, true, false, false, true, false, false, false] rfl rfl (any_of HT_.out (by kernel_rfl)) (fun _ _ _ h => h) (Or.inl ⟨by rfl, ?_⟩) ?_ ?_
          rotate_left
          ·intro w'
           go_simp
           with_reducible rfl
          rotate_left
          ·simp only [Act.put, List.setIfInBounds_toArray, List.set_cons_zero, List.set_cons_succ, i64_w, i32_w]
           rfl
          refine take_ (i := 0) (N := some 102) (v := ?_) (a' := ?_) #[true, true, false, false, true, false, false, false] rfl rfl (take_ofW HT_.out HW_.out (by kernel_rfl)) (fun _ _ _ h => h) (Or.inl ⟨by rfl, ?_⟩) hHeld ?_ ?_
          rotate_left
          ·rintro w' ⟨s0, s1, s2, s3, s4⟩
           go_simp
           with_reducible rfl
          rotate_left
          ·simp only [Act.put, List.setIfInBounds_toArray, List.set_cons_zero, List.set_cons_succ, i64_w, i32_w]
           rfl
          refine take_ (i := 2) (N := some 104) (v := ?_) (a' := ?_) #[true, true, true, false, true, false, false, false] rfl rfl (take_ofW HT_.out HW_.out (by kernel_rfl)) (fun _ _ _ h => h) (Or.inl ⟨by rfl, ?_⟩) hHeld ?_ ?_
          rotate_left
          ·rintro w' ⟨s0, s1, s2, s3, s4⟩
           go_simp
           with_reducible rfl
          rotate_left
          ·simp only [Act.put, List.setIfInBounds_toArray, List.set_cons_zero, List.set_cons_succ, i64_w, i32_w]
           rfl
          refine take_ (i := 5) (N := some 107) (v := ?_) (a' := ?_) #[true, true, true, false, true, true, false, false] rfl rfl (take_ofW HT_.out HW_.out (by kernel_rfl)) (fun _ _ _ h => h) (Or.inl ⟨by rfl, ?_⟩) hHeld ?_ ?_
          rotate_left
          ·rintro w' ⟨s0, s1, s2, s3, s4⟩
           go_simp
           with_reducible rfl
          rotate_left
          ·simp only [Act.put, List.setIfInBounds_toArray, List.set_cons_zero, List.set_cons_succ, i64_w, i32_w]
           rfl
          refine one_ (i := 3) (N := some 105) #[true, true, true, true, true, true, false, false] rfl rfl (one_of HT_.out (by kernel_rfl)) (by decide) (fun K hK => ?_)
          refine goes_ Try.func34 (by kernel_rfl) rfl #[.agg #[.int .i64 a0_0, .slice A0_1 l0_1.length c0_1], .slice A3_2 l3_2.length c3_2] (by rfl) rfl rfl (by (try simp only [List.map_toArray, List.map_cons, List.map_nil]); first | done | rfl | (simp only [List.length_drop, List.length_take]; rfl)) ?_
          with_reducible refine (flow_capacity.calls k3 a0_0 _ _ l0_1 _ _ l3_2 t228 _ ?side1 ?side2 ?side3 ?side4 A72.out).mono ?_
          (case side1 => repeat (first | exact (Kd.C_below HR0_1.out HB.out) | (with_reducible refine Kd.C_alloc ?_ _) | (with_reducible refine Kd.C_drewN ?_ _) | (with_reducible refine Kd.C_drew ?_)))
          (case side2 => exact HC0_1.out)
          (case side3 => repeat (first | exact (Kd.C_below HR3_2.out HB.out) | (with_reducible refine Kd.C_alloc ?_ _) | (with_reducible refine Kd.C_drewN ?_ _) | (with_reducible refine Kd.C_drew ?_)))
          (case side4 => exact HC3_2.out)
          rintro e w74 ⟨rfl, hb⟩
          refine ⟨_, rfl, ?_⟩
          have n0_ := Aside0.mk (Kd.R_below (by (with_reducible repeat (first | apply Kd.R_alloc | apply Kd.R_drewN | apply Kd.R_drew)); exact HO_71.out) hb)
          have n1_ := Aside0.mk (blk_below (g := gb216) (o := .cells #[.int .i64 a0_0, .slice A0_1 l0_1.length c0_1] 24 (0, 0)) (by (with_reducible repeat (first | refine blk_drewN ?_ _ | refine blk_drew ?_ | refine blk_alloc ?_ _)); exact BK216.out) hb)
          have n2_ := Aside0.mk (blk_below (g := gb217) (o := .cells #[.int .i64 a3_0, .slice A3_1 l3_1.length c3_1, .slice A3_2 l3_2.length c3_2] 39 (0, 0)) (by (with_reducible repeat (first | refine blk_drewN ?_ _ | refine blk_drew ?_ | refine blk_alloc ?_ _)); exact BK217.out) hb)
          have n3_ := Aside0.mk (below_step (by repeat (first | (with_reducible first | exact HB.out | apply below_alloc | apply pw_below_drewN | apply below_drew1 | refine below_set ?_ GE216.out | refine below_set ?_ GE217.out) | exact HB.out)) hb)
          clear HO_71
          clear BK216
          clear BK217
          clear HB
          have HO_71 := n0_
          have BK216 := n1_
          have BK217 := n2_
          have HB := n3_
          clear n0_ n1_ n2_ n3_
          (try clear hb)
          (try clear hb2)
          (try clear hk)
          (try clear hi)
          refine hK.out _ _ ⟨(blk_cell BK216.out 0).trans rfl, (blk_cell BK216.out 1).trans rfl, (blk_cell BK217.out 0).trans rfl, (blk_cell BK217.out 1).trans rfl, (blk_cell BK217.out 2).trans rfl⟩ (fun hHeld => ?_)
          clear hK K
          refine norm_ (a' := ?_) ?_ ?_
          rotate_left
          ·show Act.put _ (some 105) _ = _
           simp only [Act.put, List.setIfInBounds_toArray, List.set_cons_zero, List.set_cons_succ, i64_w, i32_w]
           rfl
          refine pure_ (i := 6) (N := some 108) (v := ?_) (a' := ?_) #[true, true, true, true, true, true, true, false] rfl rfl (any_of HT_.out (by kernel_rfl)) (fun _ _ _ h => h) (Or.inl ⟨by rfl, ?_⟩) ?_ ?_
          rotate_left
          ·intro w'
           go_simp
           with_reducible rfl
          rotate_left
          ·simp only [Act.put, List.setIfInBounds_toArray, List.set_cons_zero, List.set_cons_succ, i64_w, i32_w]
           rfl
          refine pure_ (i := 7) (N := some 8) (v := ?_) (a' := ?_) #[true, true, true, true, true, true, true, true] rfl rfl (any_of HT_.out (by kernel_rfl)) (fun _ _ _ h => h) (Or.inl ⟨by rfl, ?_⟩) ?_ ?_
          rotate_left
          ·intro w'
           go_simp
           with_reducible rfl
          rotate_left
          ·simp only [Act.put, List.setIfInBounds_toArray, List.set_cons_zero, List.set_cons_succ, i64_w, i32_w]
           rfl
          refine done_ (done_of HT_.out (by kernel_rfl)) ?_
          try go_wp2
          go_ret
          exact ⟨by first | rfl | (simp [errW_none, errW_some] <;> rfl) | (simp [*, errW_none, errW_some] <;> rfl), by repeat (first | (with_reducible first | exact HB.out | apply below_alloc | apply pw_below_drewN | apply below_drew1 | refine below_set ?_ GE216.out | refine below_set ?_ GE217.out) | exact HB.out)⟩

end Go.Proofs.Ytidomjhihfoabaa.PF
