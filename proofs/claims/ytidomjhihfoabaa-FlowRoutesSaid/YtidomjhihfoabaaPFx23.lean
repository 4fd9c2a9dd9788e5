-- thin
-- printed by a program out of Lean's own print of the program (the kit's print.py, one namespace for several laws)
import Derived.Test.YtidomjhihfoabaaPFx0
namespace Go.Proofs.Ytidomjhihfoabaa.PF
open Go.RowKit Go.Proofs.YtidomjhihfoabaaW.PrintWords Go.Proofs.YtidomjhihfoabaaW.PrintLast Go.Proofs.YtidomjhihfoabaaW.PrintMore
attribute [local go_sem] max2_int min2_int max_two min_two max_three min_three max_four min_four   -- for this text's walks alone
set_option linter.unusedVariables false
set_option linter.unusedSimpArgs false

/-! ### codewrightref51_IsCut: function 23 -/
def codewrightref51_IsCut.f (a0_0 : Int) (l0_1 : List (S36)) (a1 : Int) (a2 : Int) (l3 : List Bool) : Option (Bool) := if (l3.length : Int) = a0_0 then (if 0 ≤ a1 then (if a1 < (l3.length : Int) then (if rdOf false l3 a1 = true then (if 0 ≤ a2 then (if a2 < (l3.length : Int) then (some (!(rdOf false l3 a2))) else (none)) else (none)) else (some false)) else (none)) else (none)) else (some false)
set_option maxHeartbeats 8000000 in
set_option maxRecDepth 100000 in
theorem codewrightref51_IsCut.calls (a0_0 : Int) (A0_1 : Option Addr) (c0_1 : Nat) (l0_1 : List (S36)) (a1 : Int) (a2 : Int) (A3 : Option Addr) (c3 : Nat) (l3 : List Bool) (r : Bool) (w : World) (hr0_1 : Kd.C k36 w A0_1 l0_1.length l0_1) (hc0_1 : l0_1.length ≤ c0_1) (hr3 : Kd.C Kd.bool w A3 l3.length l3) (hc3 : l3.length ≤ c3) (h : codewrightref51_IsCut.f a0_0 l0_1 a1 a2 l3 = some r) :
  Calls Try.prog 23 #[.agg #[.int .i64 a0_0, .slice A0_1 l0_1.length c0_1], .int .i64 a1, .int .i64 a2, .slice A3 l3.length c3] w fun e w' => e = .returned (.bool r) ∧ Below w.heap.size w w' := by
 have hu24 := Try.underlying24
 have HR0_1 := Aside0.mk hr0_1
 have HC0_1 := Aside0.mk hc0_1
 clear hr0_1 hc0_1
 have HR3 := Aside0.mk hr3
 have HC3 := Aside0.mk hc3
 clear hr3 hc3
 have HB := Aside0.mk (Below.refl w.heap.size w)
 have H : (if (l3.length : Int) = a0_0 then (if 0 ≤ a1 then (if a1 < (l3.length : Int) then (if rdOf false l3 a1 = true then (if 0 ≤ a2 then (if a2 < (l3.length : Int) then (some (!(rdOf false l3 a2))) else (none)) else (none)) else (some false)) else (none)) else (none)) else (some false)) = some r := h
 clear h
 by_cases c5 : (l3.length : Int) = a0_0
 ·rw [if_pos c5] at H
  have c5b0 : ((l3.length : Int) == a0_0) = true := beq_iff_eq.mpr c5
  have c5b1 : ((l3.length : Int) != a0_0) = false := bne_eq_false_iff_eq.mpr c5
  clear c5
  by_cases c6 : 0 ≤ a1
  ·rw [if_pos c6] at H
   have c6b0 : decide (0 ≤ a1) = true := decide_eq_true c6
   clear c6
   by_cases c7 : a1 < (l3.length : Int)
   ·rw [if_pos c7] at H
    have c7b0 : decide (a1 < (l3.length : Int)) = true := decide_eq_true c7
    clear c7
    obtain ⟨bq8, hbq8⟩ : ∃ b_ : Bool, b_ = (rdOf false l3 a1) := ⟨_, rfl⟩
    replace H : (if bq8 = true then (if 0 ≤ a2 then (if a2 < (l3.length : Int) then (some (!(rdOf false l3 a2))) else (none)) else (none)) else (some false)) = some r := by rw [← hbq8] at H; exact H
    have Nbq8 := Aside0.mk hbq8
    clear hbq8
    by_cases c9 : bq8 = true
    ·subst c9
     have H1 : (if 0 ≤ a2 then (if a2 < (l3.length : Int) then (some (!(rdOf false l3 a2))) else (none)) else (none)) = some r := by rw [if_pos rfl] at H; exact H
     clear H
     have H := H1
     clear H1
     by_cases c10 : 0 ≤ a2
     ·rw [if_pos c10] at H
      have c10b0 : decide (0 ≤ a2) = true := decide_eq_true c10
      clear c10
      by_cases c11 : a2 < (l3.length : Int)
      ·rw [if_pos c11] at H
       have c11b0 : decide (a2 < (l3.length : Int)) = true := decide_eq_true c11
       clear c11
       obtain rfl := Option.some.inj H
       go_enter Try.func23, Try.ntmps23
       go_wp2_with (first | ((with_reducible refine gate_dst (N := 4) rfl ?_); refine box_event ?hg (N := 4) ?hd (cs := #[.int .i64 a0_0, .slice A0_1 l0_1.length c0_1]) (t := 24) ?hr ?_; (case hd => rfl); (case hg => rfl); (case hr => first | (go_simp; done) | (go_simp; rfl)); intro gb200 hg w12 hbox hb; have n0_ := Aside0.mk (below_step (by repeat (first | (with_reducible first | exact HB.out | apply below_alloc | apply pw_below_drewN | apply below_drew1) | exact HB.out)) hb); have n1_ := Aside0.mk (hbox); have n2_ := Aside0.mk ((by rw [hg]; exact (below_size (by repeat (first | (with_reducible first | exact HB.out | apply below_alloc | apply pw_below_drewN | apply below_drew1) | exact HB.out))) : w.heap.size ≤ gb200)); have n3_ := Aside0.mk ((by rw [hg]; exact (below_size (by repeat (first | (with_reducible first | exact HB.out | apply below_alloc | apply pw_below_drewN | apply below_drew1) | exact HB.out))) : w.heap.size ≤ gb200)); clear HB; have HB := n0_; have BK200 := n1_; have GW200 := n2_; have GE200 := n3_; clear n0_ n1_ n2_ n3_; clear hb hbox hg; have hcz13_0 : w12.cell? ⟨gb200, 0, none⟩ = some (.int .i64 a0_0) := (blk_cell BK200.out 0).trans rfl; have hcz13_1 : w12.cell? ⟨gb200, 1, none⟩ = some (.slice A0_1 l0_1.length c0_1) := (blk_cell BK200.out 1).trans rfl; have hfz13_0 := blk_frozen BK200.out 0; have hfz13_1 := blk_frozen BK200.out 1; have p201 : 0 ≤ (a1 : Int) := of_decide_eq_true (by first | (with_reducible assumption) | assumption); have q201 : a1 < (l3.length : Int) := of_decide_eq_true (by first | (with_reducible assumption) | assumption); obtain ⟨ad201, e201, hx201_0⟩ := Kd.at_bool HR3.out a1 p201 q201; (try rw [← Nbq8.out] at hx201_0); cases e201; replace hx201_0 := (HB.out.cell (World.block_lt_of_cell? w _ hx201_0)).trans hx201_0; replace p201 := eq_true p201; replace q201 := eq_true q201; have p202 : 0 ≤ (a2 : Int) := of_decide_eq_true (by first | (with_reducible assumption) | assumption); have q202 : a2 < (l3.length : Int) := of_decide_eq_true (by first | (with_reducible assumption) | assumption); obtain ⟨ad202, e202, hx202_0⟩ := Kd.at_bool HR3.out a2 p202 q202; (try rw [← Nbq8.out] at hx202_0); obtain rfl : ad201 = ad202 := (by injection e202); replace hx202_0 := (HB.out.cell (World.block_lt_of_cell? w _ hx202_0)).trans hx202_0; replace p202 := eq_true p202; replace q202 := eq_true q202))
       go_ret
       exact ⟨by first | rfl | (simp [errW_none, errW_some] <;> rfl) | (simp [*, errW_none, errW_some] <;> rfl), by repeat (first | (with_reducible first | exact HB.out | apply below_alloc | apply pw_below_drewN | apply below_drew1 | refine below_set ?_ GE200.out) | exact HB.out)⟩
      ·rw [if_neg c11] at H
       exact absurd H (by simp)
     ·rw [if_neg c10] at H
      exact absurd H (by simp)
    ·replace c9 := Bool.eq_false_iff.mpr c9
     subst c9
     have H1 : (some false) = some r := by rw [if_neg (show ¬ (false = true) by decide)] at H; exact H
     clear H
     have H := H1
     clear H1
     obtain rfl := Option.some.inj H
     go_enter Try.func23, Try.ntmps23
     go_wp2_with (first | ((with_reducible refine gate_dst (N := 4) rfl ?_); refine box_event ?hg (N := 4) ?hd (cs := #[.int .i64 a0_0, .slice A0_1 l0_1.length c0_1]) (t := 24) ?hr ?_; (case hd => rfl); (case hg => rfl); (case hr => first | (go_simp; done) | (go_simp; rfl)); intro gb200 hg w14 hbox hb; have n0_ := Aside0.mk (below_step (by repeat (first | (with_reducible first | exact HB.out | apply below_alloc | apply pw_below_drewN | apply below_drew1) | exact HB.out)) hb); have n1_ := Aside0.mk (hbox); have n2_ := Aside0.mk ((by rw [hg]; exact (below_size (by repeat (first | (with_reducible first | exact HB.out | apply below_alloc | apply pw_below_drewN | apply below_drew1) | exact HB.out))) : w.heap.size ≤ gb200)); have n3_ := Aside0.mk ((by rw [hg]; exact (below_size (by repeat (first | (with_reducible first | exact HB.out | apply below_alloc | apply pw_below_drewN | apply below_drew1) | exact HB.out))) : w.heap.size ≤ gb200)); clear HB; have HB := n0_; have BK200 := n1_; have GW200 := n2_; have GE200 := n3_; clear n0_ n1_ n2_ n3_; clear hb hbox hg; have hcz15_0 : w14.cell? ⟨gb200, 0, none⟩ = some (.int .i64 a0_0) := (blk_cell BK200.out 0).trans rfl; have hcz15_1 : w14.cell? ⟨gb200, 1, none⟩ = some (.slice A0_1 l0_1.length c0_1) := (blk_cell BK200.out 1).trans rfl; have hfz15_0 := blk_frozen BK200.out 0; have hfz15_1 := blk_frozen BK200.out 1; have p201 : 0 ≤ (a1 : Int) := of_decide_eq_true (by first | (with_reducible assumption) | assumption); have q201 : a1 < (l3.length : Int) := of_decide_eq_true (by first | (with_reducible assumption) | assumption); obtain ⟨ad201, e201, hx201_0⟩ := Kd.at_bool HR3.out a1 p201 q201; (try rw [← Nbq8.out] at hx201_0); cases e201; replace hx201_0 := (HB.out.cell (World.block_lt_of_cell? w _ hx201_0)).trans hx201_0; replace p201 := eq_true p201; replace q201 := eq_true q201))
     go_ret
     exact ⟨by first | rfl | (simp [errW_none, errW_some] <;> rfl) | (simp [*, errW_none, errW_some] <;> rfl), by repeat (first | (with_reducible first | exact HB.out | apply below_alloc | apply pw_below_drewN | apply below_drew1 | refine below_set ?_ GE200.out) | exact HB.out)⟩
   ·rw [if_neg c7] at H
    exact absurd H (by simp)
  ·rw [if_neg c6] at H
   exact absurd H (by simp)
 ·rw [if_neg c5] at H
  have c5b0 : ((l3.length : Int) == a0_0) = false := beq_eq_false_iff_ne.mpr c5
  have c5b1 : ((l3.length : Int) != a0_0) = true := bne_iff_ne.mpr c5
  obtain rfl := Option.some.inj H
  go_enter Try.func23, Try.ntmps23
  go_wp2_with (first | ((with_reducible refine gate_dst (N := 4) rfl ?_); refine box_event ?hg (N := 4) ?hd (cs := #[.int .i64 a0_0, .slice A0_1 l0_1.length c0_1]) (t := 24) ?hr ?_; (case hd => rfl); (case hg => rfl); (case hr => first | (go_simp; done) | (go_simp; rfl)); intro gb200 hg w16 hbox hb; have n0_ := Aside0.mk (below_step (by repeat (first | (with_reducible first | exact HB.out | apply below_alloc | apply pw_below_drewN | apply below_drew1) | exact HB.out)) hb); have n1_ := Aside0.mk (hbox); have n2_ := Aside0.mk ((by rw [hg]; exact (below_size (by repeat (first | (with_reducible first | exact HB.out | apply below_alloc | apply pw_below_drewN | apply below_drew1) | exact HB.out))) : w.heap.size ≤ gb200)); have n3_ := Aside0.mk ((by rw [hg]; exact (below_size (by repeat (first | (with_reducible first | exact HB.out | apply below_alloc | apply pw_below_drewN | apply below_drew1) | exact HB.out))) : w.heap.size ≤ gb200)); clear HB; have HB := n0_; have BK200 := n1_; have GW200 := n2_; have GE200 := n3_; clear n0_ n1_ n2_ n3_; clear hb hbox hg; have hcz17_0 : w16.cell? ⟨gb200, 0, none⟩ = some (.int .i64 a0_0) := (blk_cell BK200.out 0).trans rfl; have hcz17_1 : w16.cell? ⟨gb200, 1, none⟩ = some (.slice A0_1 l0_1.length c0_1) := (blk_cell BK200.out 1).trans rfl; have hfz17_0 := blk_frozen BK200.out 0; have hfz17_1 := blk_frozen BK200.out 1))
  go_ret
  exact ⟨by first | rfl | (simp [errW_none, errW_some] <;> rfl) | (simp [*, errW_none, errW_some] <;> rfl), by repeat (first | (with_reducible first | exact HB.out | apply below_alloc | apply pw_below_drewN | apply below_drew1 | refine below_set ?_ GE200.out) | exact HB.out)⟩

end Go.Proofs.Ytidomjhihfoabaa.PF
