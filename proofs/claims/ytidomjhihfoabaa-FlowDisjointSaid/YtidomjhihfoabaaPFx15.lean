-- thin
-- printed by a program out of Lean's own print of the program (the kit's print.py, one namespace for several laws)
import Derived.Test.YtidomjhihfoabaaPFx0
namespace Go.Proofs.Ytidomjhihfoabaa.PF
open Go.RowKit Go.Proofs.YtidomjhihfoabaaW.PrintWords Go.Proofs.YtidomjhihfoabaaW.PrintLast Go.Proofs.YtidomjhihfoabaaW.PrintMore
attribute [local go_sem] max2_int min2_int max_two min_two max_three min_three max_four min_four   -- for this text's walks alone
set_option linter.unusedVariables false
set_option linter.unusedSimpArgs false

/-! ### codewrightref51_Check: function 15 -/
mutual
def codewrightref51_Check.j0 : Nat → Bool → Int → List (S36) → Option (Int)
 | 0, _, _, _ => none
 | k + 1, x12, x105000, x105001 => if x12 = true then (some 6) else (if (x105001.length : Int) > 1024 then (some 8) else (codewrightref51_Check.l0 k 0 x105000 x105001))
def codewrightref51_Check.l0 : Nat → Int → Int → List (S36) → Option (Int)
 | 0, _, _, _ => none
 | k + 1, x3, x105000, x105001 => if x3 < (x105001.length : Int) then (if 0 ≤ x3 then (if ((rd_T36 x105001 x3).f0) < 0 then (some 6) else (if ((rd_T36 x105001 x3).f0) ≥ x105000 then (some 6) else (if ((rd_T36 x105001 x3).f1) < 0 then (some 6) else (if ((rd_T36 x105001 x3).f1) ≥ x105000 then (some 6) else (if ((rd_T36 x105001 x3).f2) < 0 then (some 6) else (if ((rd_T36 x105001 x3).f2) > 1099511627776 then (some 6) else (codewrightref51_Check.l0 k (wrap64 (x3 + 1)) x105000 x105001))))))) else (none)) else (some 0)
end
def codewrightref51_Check.f (k : Nat) (a0_0 : Int) (l0_1 : List (S36)) : Option (Int) := if a0_0 < 1 then (codewrightref51_Check.j0 k true a0_0 l0_1) else (codewrightref51_Check.j0 k (decide (a0_0 > 256)) a0_0 l0_1)
theorem codewrightref51_Check.mono_l : ∀ k, (∀ y0 y1 y2, LeO (codewrightref51_Check.j0 k y0 y1 y2) (codewrightref51_Check.j0 (k + 1) y0 y1 y2)) ∧ (∀ y0 y1 y2, LeO (codewrightref51_Check.l0 k y0 y1 y2) (codewrightref51_Check.l0 (k + 1) y0 y1 y2))
 | 0 => ⟨fun _ _ _ r h => by simp [codewrightref51_Check.j0] at h, fun _ _ _ r h => by simp [codewrightref51_Check.l0] at h⟩
 | k + 1 => by
  obtain ⟨ih0, ih1⟩ := codewrightref51_Check.mono_l k
  refine ⟨?_, ?_⟩
  ·intro y0 y1 y2
   unfold codewrightref51_Check.j0
   repeat' first
   | (with_reducible exact ih0 _ _ _)
   | (with_reducible exact ih1 _ _ _)
   | (with_reducible exact LeO.refl _)
   | (with_reducible exact LeO.none _)
   | (with_reducible refine LeO.ite ?_ ?_)
   | (with_reducible refine LeO.bind ?_ (fun _ => ?_))
   | exact ih0 _ _ _
   | exact ih1 _ _ _
   | exact LeO.none _
   | refine LeO.ite ?_ ?_
   | refine LeO.bind ?_ (fun _ => ?_)
  ·intro y0 y1 y2
   unfold codewrightref51_Check.l0
   repeat' first
   | (with_reducible exact ih0 _ _ _)
   | (with_reducible exact ih1 _ _ _)
   | (with_reducible exact LeO.refl _)
   | (with_reducible exact LeO.none _)
   | (with_reducible refine LeO.ite ?_ ?_)
   | (with_reducible refine LeO.bind ?_ (fun _ => ?_))
   | exact ih0 _ _ _
   | exact ih1 _ _ _
   | exact LeO.none _
   | refine LeO.ite ?_ ?_
   | refine LeO.bind ?_ (fun _ => ?_)
theorem codewrightref51_Check.mono : ∀ a0 a1 k, LeO (codewrightref51_Check.f k a0 a1) (codewrightref51_Check.f (k + 1) a0 a1) := by
 intro a0 a1 k
 obtain ⟨ih0, ih1⟩ := codewrightref51_Check.mono_l k
 unfold codewrightref51_Check.f
 repeat' first
   | (with_reducible exact ih0 _ _ _)
   | (with_reducible exact ih1 _ _ _)
   | (with_reducible exact LeO.refl _)
   | (with_reducible exact LeO.none _)
   | (with_reducible refine LeO.ite ?_ ?_)
   | (with_reducible refine LeO.bind ?_ (fun _ => ?_))
   | exact ih0 _ _ _
   | exact ih1 _ _ _
   | exact LeO.none _
   | refine LeO.ite ?_ ?_
   | refine LeO.bind ?_ (fun _ => ?_)
set_option maxHeartbeats 8000000 in
set_option maxRecDepth 100000 in
theorem codewrightref51_Check.calls (k : Nat) (a0_0 : Int) (A0_1 : Option Addr) (c0_1 : Nat) (l0_1 : List (S36)) (r : Int) (w : World) (hr0_1 : Kd.C k36 w A0_1 l0_1.length l0_1) (hc0_1 : l0_1.length ≤ c0_1) (h : codewrightref51_Check.f k a0_0 l0_1 = some r) :
  Calls Try.prog 15 #[.agg #[.int .i64 a0_0, .slice A0_1 l0_1.length c0_1]] w fun e w' => e = .returned (.int .i64 r) ∧ Below w.heap.size w w' := by
 have hu24 := Try.underlying24
 have hu36 := Try.underlying36
 have HR0_1 := Aside0.mk hr0_1
 have HC0_1 := Aside0.mk hc0_1
 clear hr0_1 hc0_1
 have HB := Aside0.mk (Below.refl w.heap.size w)
 have H : (if a0_0 < 1 then (codewrightref51_Check.j0 k true a0_0 l0_1) else (codewrightref51_Check.j0 k (decide (a0_0 > 256)) a0_0 l0_1)) = some r := h
 clear h
 have HC2 := Aside0.mk H
 clear H
 go_enter Try.func15, Try.ntmps15
 go_upto_region 1 with (first | ((with_reducible refine gate_dst (N := 1) rfl ?_); refine box_event ?hg (N := 1) ?hd (cs := #[.int .i64 a0_0, .slice A0_1 l0_1.length c0_1]) (t := 24) ?hr ?_; (case hd => rfl); (case hg => rfl); (case hr => first | (go_simp; done) | (go_simp; rfl)); intro gb104 hg w3 hbox hb; have n0_ := Aside0.mk (below_step (by repeat (first | (with_reducible first | exact HB.out | apply below_alloc | apply pw_below_drewN | apply below_drew1) | exact HB.out)) hb); have n1_ := Aside0.mk (hbox); have n2_ := Aside0.mk ((by rw [hg]; exact (below_size (by repeat (first | (with_reducible first | exact HB.out | apply below_alloc | apply pw_below_drewN | apply below_drew1) | exact HB.out))) : w.heap.size ≤ gb104)); have n3_ := Aside0.mk ((by rw [hg]; exact (below_size (by repeat (first | (with_reducible first | exact HB.out | apply below_alloc | apply pw_below_drewN | apply below_drew1) | exact HB.out))) : w.heap.size ≤ gb104)); clear HB; have HB := n0_; have BK104 := n1_; have GW104 := n2_; have GE104 := n3_; clear n0_ n1_ n2_ n3_; clear hb hbox hg))
 (try simp only [Act.put, List.setIfInBounds_toArray, List.set_cons_zero, List.set_cons_succ])
 go_cut [12] (fun v12 wc => ∃ (kq : Nat) (x12_1 : Bool), v12 = .bool x12_1 ∧ Aside0 (codewrightref51_Check.j0 kq x12_1 a0_0 l0_1 = some r) ∧ Aside0 (kq ≤ k) ∧ Aside0 (wc.heap[gb104]? = some (.cells #[.int .i64 a0_0, (.slice A0_1 l0_1.length c0_1)] 24 (0, 0))) ∧ Aside0 (Below w.heap.size w wc))
 case first =>
  have H := HC2.out
  clear HC2
  by_cases c4 : a0_0 < 1
  ·rw [if_pos c4] at H
   have c4b0 : decide (a0_0 < 1) = true := decide_eq_true c4
   clear c4
   (first | rw [c4b0] | (simp only [i64_w, i32_w]; rw [c4b0]) | skip)
   have H' := Aside0.mk H
   clear H
   have hcz5_0 : w3.cell? ⟨gb104, 0, none⟩ = some (.int .i64 a0_0) := (blk_cell BK104.out 0).trans rfl
   have hcz5_1 : w3.cell? ⟨gb104, 1, none⟩ = some (.slice A0_1 l0_1.length c0_1) := (blk_cell BK104.out 1).trans rfl
   have hfz5_0 := blk_frozen BK104.out 0
   have hfz5_1 := blk_frozen BK104.out 1
   go_wp2
   go_meet
   case rel => exact ⟨_, (true), (by first | rfl | (simp; done) | (simp [*]; done)), H', ⟨by first | omega | exact Nat.le_refl _⟩, ⟨by (with_reducible repeat (first | refine blk_drewN ?_ _ | refine blk_drew ?_ | refine blk_alloc ?_ _)); exact BK104.out⟩, ⟨by repeat (first | (with_reducible first | exact HB.out | apply below_alloc | apply pw_below_drewN | apply below_drew1 | refine below_set ?_ GE104.out) | exact HB.out)⟩⟩
  ·rw [if_neg c4] at H
   have c4b0 : decide (a0_0 < 1) = false := decide_eq_false c4
   clear c4
   (first | rw [c4b0] | (simp only [i64_w, i32_w]; rw [c4b0]) | skip)
   have H' := Aside0.mk H
   clear H
   have hcz6_0 : w3.cell? ⟨gb104, 0, none⟩ = some (.int .i64 a0_0) := (blk_cell BK104.out 0).trans rfl
   have hcz6_1 : w3.cell? ⟨gb104, 1, none⟩ = some (.slice A0_1 l0_1.length c0_1) := (blk_cell BK104.out 1).trans rfl
   have hfz6_0 := blk_frozen BK104.out 0
   have hfz6_1 := blk_frozen BK104.out 1
   go_wp2
   go_meet
   case rel => exact ⟨_, (decide (a0_0 > 256)), (by first | rfl | (simp; done) | (simp [*]; done)), H', ⟨by first | omega | exact Nat.le_refl _⟩, ⟨by (with_reducible repeat (first | refine blk_drewN ?_ _ | refine blk_drew ?_ | refine blk_alloc ?_ _)); exact BK104.out⟩, ⟨by repeat (first | (with_reducible first | exact HB.out | apply below_alloc | apply pw_below_drewN | apply below_drew1 | refine below_set ?_ GE104.out) | exact HB.out)⟩⟩
 case rest =>
  clear HC2
  try clear c1
  try clear p2
  try clear c4
  try clear c4b0
  try clear hcz5_0
  try clear hcz5_1
  try clear hcz6_0
  try clear hcz6_1
  try clear hfz5_0
  try clear hfz5_1
  try clear hfz6_0
  try clear hfz6_1
  obtain ⟨kq, x12_1, rfl, HA, HJ1, BK104, HB⟩ := hcut
  cases kq with
  | zero => exact absurd HA.out (by simp [codewrightref51_Check.j0])
  | succ kj1 =>
   have H := HA.out
   clear HA
   simp only [codewrightref51_Check.j0] at H
   by_cases c7 : x12_1 = true
   ·subst c7
    have H1 : (some 6) = some r := by rw [if_pos rfl] at H; exact H
    clear H
    have H := H1
    clear H1
    obtain rfl := Option.some.inj H
    go_wp2
    go_ret
    exact ⟨by first | rfl | (simp [errW_none, errW_some] <;> rfl) | (simp [*, errW_none, errW_some] <;> rfl), by repeat (first | (with_reducible first | exact HB.out | apply below_alloc | apply pw_below_drewN | apply below_drew1 | refine below_set ?_ GE104.out) | exact HB.out)⟩
   ·replace c7 := Bool.eq_false_iff.mpr c7
    subst c7
    have H1 : (if (l0_1.length : Int) > 1024 then (some 8) else (codewrightref51_Check.l0 kj1 0 a0_0 l0_1)) = some r := by rw [if_neg (show ¬ (false = true) by decide)] at H; exact H
    clear H
    have H := H1
    clear H1
    by_cases c8 : (l0_1.length : Int) > 1024
    ·rw [if_pos c8] at H
     have c8b0 : decide (1024 < (l0_1.length : Int)) = true := decide_eq_true c8
     have c8b1 : decide (1024 < l0_1.length) = true := decide_eq_true (by omega)
     clear c8
     obtain rfl := Option.some.inj H
     have hcz9_0 : wc.cell? ⟨gb104, 0, none⟩ = some (.int .i64 a0_0) := (blk_cell BK104.out 0).trans rfl
     have hcz9_1 : wc.cell? ⟨gb104, 1, none⟩ = some (.slice A0_1 l0_1.length c0_1) := (blk_cell BK104.out 1).trans rfl
     have hfz9_0 := blk_frozen BK104.out 0
     have hfz9_1 := blk_frozen BK104.out 1
     go_wp2
     go_ret
     exact ⟨by first | rfl | (simp [errW_none, errW_some] <;> rfl) | (simp [*, errW_none, errW_some] <;> rfl), by repeat (first | (with_reducible first | exact HB.out | apply below_alloc | apply pw_below_drewN | apply below_drew1 | refine below_set ?_ GE104.out) | exact HB.out)⟩
    ·rw [if_neg c8] at H
     have c8b0 : decide (1024 < (l0_1.length : Int)) = false := decide_eq_false c8
     have c8b1 : decide (1024 < l0_1.length) = false := decide_eq_false (by omega)
     clear c8
     have H' := Aside0.mk H
     clear H
     have hcz10_0 : wc.cell? ⟨gb104, 0, none⟩ = some (.int .i64 a0_0) := (blk_cell BK104.out 0).trans rfl
     have hcz10_1 : wc.cell? ⟨gb104, 1, none⟩ = some (.slice A0_1 l0_1.length c0_1) := (blk_cell BK104.out 1).trans rfl
     have hfz10_0 := blk_frozen BK104.out 0
     have hfz10_1 := blk_frozen BK104.out 1
     go_wp2
     go_loopg [3] kj1 (fun kq v3 w' => ∃ (x3_2 : Int), v3 = .int .i64 x3_2 ∧ Aside0 (codewrightref51_Check.l0 kq x3_2 a0_0 l0_1 = some r) ∧ Aside0 (kq ≤ kj1) ∧ Aside0 (w'.heap[gb104]? = some (.cells #[.int .i64 a0_0, (.slice A0_1 l0_1.length c0_1)] 24 (0, 0))) ∧ Aside0 (Below w.heap.size w w'))
     case atStart => exact ⟨(0), (by first | rfl | (simp; done) | (simp [*]; done)), H', ⟨Nat.le_refl _⟩, ⟨by (with_reducible repeat (first | refine blk_drewN ?_ _ | refine blk_drew ?_ | refine blk_alloc ?_ _)); exact BK104.out⟩, ⟨by repeat (first | (with_reducible first | exact HB.out | apply below_alloc | apply pw_below_drewN | apply below_drew1 | refine below_set ?_ GE104.out) | exact HB.out)⟩⟩
     case round =>
      clear H'
      try clear c1
      try clear p2
      try clear c4
      try clear c4b0
      try clear c7
      try clear c8
      try clear c8b0
      try clear c8b1
      try clear hcz10_0
      try clear hcz10_1
      try clear hcz5_0
      try clear hcz5_1
      try clear hcz6_0
      try clear hcz6_1
      try clear hcz9_0
      try clear hcz9_1
      try clear hfz10_0
      try clear hfz10_1
      try clear hfz5_0
      try clear hfz5_1
      try clear hfz6_0
      try clear hfz6_1
      try clear hfz9_0
      try clear hfz9_1
      try clear p2
      obtain ⟨x3_2, rfl, HA, HK2, BK104, HB⟩ := hrel
      cases gk with
      | zero => exact absurd HA.out (by simp [codewrightref51_Check.l0])
      | succ k2 =>
       have H := HA.out
       clear HA
       simp only [codewrightref51_Check.l0] at H
       by_cases c11 : x3_2 < (l0_1.length : Int)
       ·rw [if_pos c11] at H
        have c11b0 : decide (x3_2 < (l0_1.length : Int)) = true := decide_eq_true c11
        clear c11
        by_cases c12 : 0 ≤ x3_2
        ·rw [if_pos c12] at H
         have c12b0 : decide (0 ≤ x3_2) = true := decide_eq_true c12
         clear c12
         by_cases c13 : ((rd_T36 l0_1 x3_2).f0) < 0
         ·rw [if_pos c13] at H
          have c13b0 : decide (((rd_T36 l0_1 x3_2).f0) < 0) = true := decide_eq_true c13
          clear c13
          obtain rfl := Option.some.inj H
          have hcz14_0 : wr.cell? ⟨gb104, 0, none⟩ = some (.int .i64 a0_0) := (blk_cell BK104.out 0).trans rfl
          have hcz14_1 : wr.cell? ⟨gb104, 1, none⟩ = some (.slice A0_1 l0_1.length c0_1) := (blk_cell BK104.out 1).trans rfl
          have hfz14_0 := blk_frozen BK104.out 0
          have hfz14_1 := blk_frozen BK104.out 1
          have p105 : 0 ≤ (x3_2 : Int) := of_decide_eq_true (by first | (with_reducible assumption) | assumption)
          have q105 : x3_2 < (l0_1.length : Int) := of_decide_eq_true (by first | (with_reducible assumption) | assumption)
          obtain ⟨ad105, e105, hx105_0, hx105_1, hx105_2⟩ := at_T36 HR0_1.out x3_2 p105 q105
          cases e105
          replace hx105_0 := (HB.out.cell (World.block_lt_of_cell? w _ hx105_0)).trans hx105_0
          replace hx105_1 := (HB.out.cell (World.block_lt_of_cell? w _ hx105_1)).trans hx105_1
          replace hx105_2 := (HB.out.cell (World.block_lt_of_cell? w _ hx105_2)).trans hx105_2
          replace p105 := eq_true p105
          replace q105 := eq_true q105
          go_wp2_with (first | ((with_reducible refine gate_dst (N := 4) rfl ?_); refine box_event ?hg (N := 4) ?hd (cs := #[.int .i64 0, .int .i64 0, .int .i64 0]) (t := 36) ?hr ?_; (case hd => rfl); (case hg => rfl); (case hr => first | (go_simp; done) | (go_simp; rfl)); intro gb106 hg w15 hbox hb; have n0_ := Aside0.mk (blk_below (g := gb104) (o := .cells #[.int .i64 a0_0, .slice (some ad105) l0_1.length c0_1] 24 (0, 0)) (by (with_reducible repeat (first | refine blk_drewN ?_ _ | refine blk_drew ?_ | refine blk_alloc ?_ _)); exact BK104.out) hb); have n1_ := Aside0.mk (below_step (by repeat (first | (with_reducible first | exact HB.out | apply below_alloc | apply pw_below_drewN | apply below_drew1 | refine below_set ?_ GE104.out) | exact HB.out)) hb); have n2_ := Aside0.mk (hbox); have n3_ := Aside0.mk ((by rw [hg]; exact (below_size (by repeat (first | (with_reducible first | exact HB.out | apply below_alloc | apply pw_below_drewN | apply below_drew1 | refine below_set ?_ GE104.out) | exact HB.out))) : w.heap.size ≤ gb106)); have n4_ := Aside0.mk ((by rw [hg]; exact (below_size (by repeat (first | (with_reducible first | exact HB.out | apply below_alloc | apply pw_below_drewN | apply below_drew1 | refine below_set ?_ GE104.out) | exact HB.out))) : w.heap.size ≤ gb106)); have n5_ := Aside0.mk ((by rw [hg]; exact Nat.ne_of_lt (blk_lt (g := gb104) (o := .cells #[.int .i64 a0_0, .slice (some ad105) l0_1.length c0_1] 24 (0, 0)) (by (with_reducible repeat (first | refine blk_drewN ?_ _ | refine blk_drew ?_ | refine blk_alloc ?_ _)); exact BK104.out)) : gb104 ≠ gb106)); have n6_ := Aside0.mk ((by rw [hg]; exact Nat.ne_of_gt (blk_lt (g := gb104) (o := .cells #[.int .i64 a0_0, .slice (some ad105) l0_1.length c0_1] 24 (0, 0)) (by (with_reducible repeat (first | refine blk_drewN ?_ _ | refine blk_drew ?_ | refine blk_alloc ?_ _)); exact BK104.out)) : gb106 ≠ gb104)); clear BK104; clear HB; have BK104 := n0_; have HB := n1_; have BK106 := n2_; have GW106 := n3_; have GE106 := n4_; have NB104_106 := n5_; have NB106_104 := n6_; clear n0_ n1_ n2_ n3_ n4_ n5_ n6_; clear hb hbox hg; have hnb16 := NB106_104.out; have hnc16 := NB104_106.out; have hcz17_0 : w15.cell? ⟨gb106, 0, none⟩ = some (.int .i64 0) := (blk_cell BK106.out 0).trans rfl; have hcz17_1 : w15.cell? ⟨gb106, 1, none⟩ = some (.int .i64 0) := (blk_cell BK106.out 1).trans rfl; have hcz17_2 : w15.cell? ⟨gb106, 2, none⟩ = some (.int .i64 0) := (blk_cell BK106.out 2).trans rfl; have hfz17_0 := blk_frozen BK106.out 0; have hfz17_1 := blk_frozen BK106.out 1; have hfz17_2 := blk_frozen BK106.out 2))
          go_ret
          exact ⟨by first | rfl | (simp [errW_none, errW_some] <;> rfl) | (simp [*, errW_none, errW_some] <;> rfl), by repeat (first | (with_reducible first | exact HB.out | apply below_alloc | apply pw_below_drewN | apply below_drew1 | refine below_set ?_ GE104.out | refine below_set ?_ GE106.out) | exact HB.out)⟩
         ·rw [if_neg c13] at H
          have c13b0 : decide (((rd_T36 l0_1 x3_2).f0) < 0) = false := decide_eq_false c13
          clear c13
          by_cases c18 : ((rd_T36 l0_1 x3_2).f0) ≥ a0_0
          ·rw [if_pos c18] at H
           have c18b0 : decide (a0_0 ≤ ((rd_T36 l0_1 x3_2).f0)) = true := decide_eq_true c18
           clear c18
           obtain rfl := Option.some.inj H
           have hcz19_0 : wr.cell? ⟨gb104, 0, none⟩ = some (.int .i64 a0_0) := (blk_cell BK104.out 0).trans rfl
           have hcz19_1 : wr.cell? ⟨gb104, 1, none⟩ = some (.slice A0_1 l0_1.length c0_1) := (blk_cell BK104.out 1).trans rfl
           have hfz19_0 := blk_frozen BK104.out 0
           have hfz19_1 := blk_frozen BK104.out 1
           have p105 : 0 ≤ (x3_2 : Int) := of_decide_eq_true (by first | (with_reducible assumption) | assumption)
           have q105 : x3_2 < (l0_1.length : Int) := of_decide_eq_true (by first | (with_reducible assumption) | assumption)
           obtain ⟨ad105, e105, hx105_0, hx105_1, hx105_2⟩ := at_T36 HR0_1.out x3_2 p105 q105
           cases e105
           replace hx105_0 := (HB.out.cell (World.block_lt_of_cell? w _ hx105_0)).trans hx105_0
           replace hx105_1 := (HB.out.cell (World.block_lt_of_cell? w _ hx105_1)).trans hx105_1
           replace hx105_2 := (HB.out.cell (World.block_lt_of_cell? w _ hx105_2)).trans hx105_2
           replace p105 := eq_true p105
           replace q105 := eq_true q105
           go_wp2_with (first | ((with_reducible refine gate_dst (N := 4) rfl ?_); refine box_event ?hg (N := 4) ?hd (cs := #[.int .i64 0, .int .i64 0, .int .i64 0]) (t := 36) ?hr ?_; (case hd => rfl); (case hg => rfl); (case hr => first | (go_simp; done) | (go_simp; rfl)); intro gb106 hg w20 hbox hb; have n0_ := Aside0.mk (blk_below (g := gb104) (o := .cells #[.int .i64 a0_0, .slice (some ad105) l0_1.length c0_1] 24 (0, 0)) (by (with_reducible repeat (first | refine blk_drewN ?_ _ | refine blk_drew ?_ | refine blk_alloc ?_ _)); exact BK104.out) hb); have n1_ := Aside0.mk (below_step (by repeat (first | (with_reducible first | exact HB.out | apply below_alloc | apply pw_below_drewN | apply below_drew1 | refine below_set ?_ GE104.out) | exact HB.out)) hb); have n2_ := Aside0.mk (hbox); have n3_ := Aside0.mk ((by rw [hg]; exact (below_size (by repeat (first | (with_reducible first | exact HB.out | apply below_alloc | apply pw_below_drewN | apply below_drew1 | refine below_set ?_ GE104.out) | exact HB.out))) : w.heap.size ≤ gb106)); have n4_ := Aside0.mk ((by rw [hg]; exact (below_size (by repeat (first | (with_reducible first | exact HB.out | apply below_alloc | apply pw_below_drewN | apply below_drew1 | refine below_set ?_ GE104.out) | exact HB.out))) : w.heap.size ≤ gb106)); have n5_ := Aside0.mk ((by rw [hg]; exact Nat.ne_of_lt (blk_lt (g := gb104) (o := .cells #[.int .i64 a0_0, .slice (some ad105) l0_1.length c0_1] 24 (0, 0)) (by (with_reducible repeat (first | refine blk_drewN ?_ _ | refine blk_drew ?_ | refine blk_alloc ?_ _)); exact BK104.out)) : gb104 ≠ gb106)); have n6_ := Aside0.mk ((by rw [hg]; exact Nat.ne_of_gt (blk_lt (g := gb104) (o := .cells #[.int .i64 a0_0, .slice (some ad105) l0_1.length c0_1] 24 (0, 0)) (by (with_reducible repeat (first | refine blk_drewN ?_ _ | refine blk_drew ?_ | refine blk_alloc ?_ _)); exact BK104.out)) : gb106 ≠ gb104)); clear BK104; clear HB; have BK104 := n0_; have HB := n1_; have BK106 := n2_; have GW106 := n3_; have GE106 := n4_; have NB104_106 := n5_; have NB106_104 := n6_; clear n0_ n1_ n2_ n3_ n4_ n5_ n6_; clear hb hbox hg; have hnb21 := NB106_104.out; have hnc21 := NB104_106.out; have hcz22_0 : w20.cell? ⟨gb106, 0, none⟩ = some (.int .i64 0) := (blk_cell BK106.out 0).trans rfl; have hcz22_1 : w20.cell? ⟨gb106, 1, none⟩ = some (.int .i64 0) := (blk_cell BK106.out 1).trans rfl; have hcz22_2 : w20.cell? ⟨gb106, 2, none⟩ = some (.int .i64 0) := (blk_cell BK106.out 2).trans rfl; have hfz22_0 := blk_frozen BK106.out 0; have hfz22_1 := blk_frozen BK106.out 1; have hfz22_2 := blk_frozen BK106.out 2; have hcz23_0 : w20.cell? ⟨gb104, 0, none⟩ = some (.int .i64 a0_0) := (blk_cell BK104.out 0).trans rfl; have hcz23_1 : w20.cell? ⟨gb104, 1, none⟩ = some (.slice (some ad105) l0_1.length c0_1) := (blk_cell BK104.out 1).trans rfl; have hfz23_0 := blk_frozen BK104.out 0; have hfz23_1 := blk_frozen BK104.out 1))
           go_ret
           exact ⟨by first | rfl | (simp [errW_none, errW_some] <;> rfl) | (simp [*, errW_none, errW_some] <;> rfl), by repeat (first | (with_reducible first | exact HB.out | apply below_alloc | apply pw_below_drewN | apply below_drew1 | refine below_set ?_ GE104.out | refine below_set ?_ GE106.out) | exact HB.out)⟩
          ·rw [if_neg c18] at H
           have c18b0 : decide (a0_0 ≤ ((rd_T36 l0_1 x3_2).f0)) = false := decide_eq_false c18
           clear c18
           by_cases c24 : ((rd_T36 l0_1 x3_2).f1) < 0
           ·rw [if_pos c24] at H
            have c24b0 : decide (((rd_T36 l0_1 x3_2).f1) < 0) = true := decide_eq_true c24
            clear c24
            obtain rfl := Option.some.inj H
            have hcz25_0 : wr.cell? ⟨gb104, 0, none⟩ = some (.int .i64 a0_0) := (blk_cell BK104.out 0).trans rfl
            have hcz25_1 : wr.cell? ⟨gb104, 1, none⟩ = some (.slice A0_1 l0_1.length c0_1) := (blk_cell BK104.out 1).trans rfl
            have hfz25_0 := blk_frozen BK104.out 0
            have hfz25_1 := blk_frozen BK104.out 1
            have p105 : 0 ≤ (x3_2 : Int) := of_decide_eq_true (by first | (with_reducible assumption) | assumption)
            have q105 : x3_2 < (l0_1.length : Int) := of_decide_eq_true (by first | (with_reducible assumption) | assumption)
            obtain ⟨ad105, e105, hx105_0, hx105_1, hx105_2⟩ := at_T36 HR0_1.out x3_2 p105 q105
            cases e105
            replace hx105_0 := (HB.out.cell (World.block_lt_of_cell? w _ hx105_0)).trans hx105_0
            replace hx105_1 := (HB.out.cell (World.block_lt_of_cell? w _ hx105_1)).trans hx105_1
            replace hx105_2 := (HB.out.cell (World.block_lt_of_cell? w _ hx105_2)).trans hx105_2
            replace p105 := eq_true p105
            replace q105 := eq_true q105
            go_wp2_with (first | ((with_reducible refine gate_dst (N := 4) rfl ?_); refine box_event ?hg (N := 4) ?hd (cs := #[.int .i64 0, .int .i64 0, .int .i64 0]) (t := 36) ?hr ?_; (case hd => rfl); (case hg => rfl); (case hr => first | (go_simp; done) | (go_simp; rfl)); intro gb106 hg w26 hbox hb; have n0_ := Aside0.mk (blk_below (g := gb104) (o := .cells #[.int .i64 a0_0, .slice (some ad105) l0_1.length c0_1] 24 (0, 0)) (by (with_reducible repeat (first | refine blk_drewN ?_ _ | refine blk_drew ?_ | refine blk_alloc ?_ _)); exact BK104.out) hb); have n1_ := Aside0.mk (below_step (by repeat (first | (with_reducible first | exact HB.out | apply below_alloc | apply pw_below_drewN | apply below_drew1 | refine below_set ?_ GE104.out) | exact HB.out)) hb); have n2_ := Aside0.mk (hbox); have n3_ := Aside0.mk ((by rw [hg]; exact (below_size (by repeat (first | (with_reducible first | exact HB.out | apply below_alloc | apply pw_below_drewN | apply below_drew1 | refine below_set ?_ GE104.out) | exact HB.out))) : w.heap.size ≤ gb106)); have n4_ := Aside0.mk ((by rw [hg]; exact (below_size (by repeat (first | (with_reducible first | exact HB.out | apply below_alloc | apply pw_below_drewN | apply below_drew1 | refine below_set ?_ GE104.out) | exact HB.out))) : w.heap.size ≤ gb106)); have n5_ := Aside0.mk ((by rw [hg]; exact Nat.ne_of_lt (blk_lt (g := gb104) (o := .cells #[.int .i64 a0_0, .slice (some ad105) l0_1.length c0_1] 24 (0, 0)) (by (with_reducible repeat (first | refine blk_drewN ?_ _ | refine blk_drew ?_ | refine blk_alloc ?_ _)); exact BK104.out)) : gb104 ≠ gb106)); have n6_ := Aside0.mk ((by rw [hg]; exact Nat.ne_of_gt (blk_lt (g := gb104) (o := .cells #[.int .i64 a0_0, .slice (some ad105) l0_1.length c0_1] 24 (0, 0)) (by (with_reducible repeat (first | refine blk_drewN ?_ _ | refine blk_drew ?_ | refine blk_alloc ?_ _)); exact BK104.out)) : gb106 ≠ gb104)); clear BK104; clear HB; have BK104 := n0_; have HB := n1_; have BK106 := n2_; have GW106 := n3_; have GE106 := n4_; have NB104_106 := n5_; have NB106_104 := n6_; clear n0_ n1_ n2_ n3_ n4_ n5_ n6_; clear hb hbox hg; have hnb27 := NB106_104.out; have hnc27 := NB104_106.out; have hcz28_0 : w26.cell? ⟨gb106, 0, none⟩ = some (.int .i64 0) := (blk_cell BK106.out 0).trans rfl; have hcz28_1 : w26.cell? ⟨gb106, 1, none⟩ = some (.int .i64 0) := (blk_cell BK106.out 1).trans rfl; have hcz28_2 : w26.cell? ⟨gb106, 2, none⟩ = some (.int .i64 0) := (blk_cell BK106.out 2).trans rfl; have hfz28_0 := blk_frozen BK106.out 0; have hfz28_1 := blk_frozen BK106.out 1; have hfz28_2 := blk_frozen BK106.out 2; have hcz29_0 : w26.cell? ⟨gb104, 0, none⟩ = some (.int .i64 a0_0) := (blk_cell BK104.out 0).trans rfl; have hcz29_1 : w26.cell? ⟨gb104, 1, none⟩ = some (.slice (some ad105) l0_1.length c0_1) := (blk_cell BK104.out 1).trans rfl; have hfz29_0 := blk_frozen BK104.out 0; have hfz29_1 := blk_frozen BK104.out 1))
            go_ret
            exact ⟨by first | rfl | (simp [errW_none, errW_some] <;> rfl) | (simp [*, errW_none, errW_some] <;> rfl), by repeat (first | (with_reducible first | exact HB.out | apply below_alloc | apply pw_below_drewN | apply below_drew1 | refine below_set ?_ GE104.out | refine below_set ?_ GE106.out) | exact HB.out)⟩
           ·rw [if_neg c24] at H
            have c24b0 : decide (((rd_T36 l0_1 x3_2).f1) < 0) = false := decide_eq_false c24
            clear c24
            by_cases c30 : ((rd_T36 l0_1 x3_2).f1) ≥ a0_0
            ·rw [if_pos c30] at H
             have c30b0 : decide (a0_0 ≤ ((rd_T36 l0_1 x3_2).f1)) = true := decide_eq_true c30
             clear c30
             obtain rfl := Option.some.inj H
             have hcz31_0 : wr.cell? ⟨gb104, 0, none⟩ = some (.int .i64 a0_0) := (blk_cell BK104.out 0).trans rfl
             have hcz31_1 : wr.cell? ⟨gb104, 1, none⟩ = some (.slice A0_1 l0_1.length c0_1) := (blk_cell BK104.out 1).trans rfl
             have hfz31_0 := blk_frozen BK104.out 0
             have hfz31_1 := blk_frozen BK104.out 1
             have p105 : 0 ≤ (x3_2 : Int) := of_decide_eq_true (by first | (with_reducible assumption) | assumption)
             have q105 : x3_2 < (l0_1.length : Int) := of_decide_eq_true (by first | (with_reducible assumption) | assumption)
             obtain ⟨ad105, e105, hx105_0, hx105_1, hx105_2⟩ := at_T36 HR0_1.out x3_2 p105 q105
             cases e105
             replace hx105_0 := (HB.out.cell (World.block_lt_of_cell? w _ hx105_0)).trans hx105_0
             replace hx105_1 := (HB.out.cell (World.block_lt_of_cell? w _ hx105_1)).trans hx105_1
             replace hx105_2 := (HB.out.cell (World.block_lt_of_cell? w _ hx105_2)).trans hx105_2
             replace p105 := eq_true p105
             replace q105 := eq_true q105
             go_wp2_with (first | ((with_reducible refine gate_dst (N := 4) rfl ?_); refine box_event ?hg (N := 4) ?hd (cs := #[.int .i64 0, .int .i64 0, .int .i64 0]) (t := 36) ?hr ?_; (case hd => rfl); (case hg => rfl); (case hr => first | (go_simp; done) | (go_simp; rfl)); intro gb106 hg w32 hbox hb; have n0_ := Aside0.mk (blk_below (g := gb104) (o := .cells #[.int .i64 a0_0, .slice (some ad105) l0_1.length c0_1] 24 (0, 0)) (by (with_reducible repeat (first | refine blk_drewN ?_ _ | refine blk_drew ?_ | refine blk_alloc ?_ _)); exact BK104.out) hb); have n1_ := Aside0.mk (below_step (by repeat (first | (with_reducible first | exact HB.out | apply below_alloc | apply pw_below_drewN | apply below_drew1 | refine below_set ?_ GE104.out) | exact HB.out)) hb); have n2_ := Aside0.mk (hbox); have n3_ := Aside0.mk ((by rw [hg]; exact (below_size (by repeat (first | (with_reducible first | exact HB.out | apply below_alloc | apply pw_below_drewN | apply below_drew1 | refine below_set ?_ GE104.out) | exact HB.out))) : w.heap.size ≤ gb106)); have n4_ := Aside0.mk ((by rw [hg]; exact (below_size (by repeat (first | (with_reducible first | exact HB.out | apply below_alloc | apply pw_below_drewN | apply below_drew1 | refine below_set ?_ GE104.out) | exact HB.out))) : w.heap.size ≤ gb106)); have n5_ := Aside0.mk ((by rw [hg]; exact Nat.ne_of_lt (blk_lt (g := gb104) (o := .cells #[.int .i64 a0_0, .slice (some ad105) l0_1.length c0_1] 24 (0, 0)) (by (with_reducible repeat (first | refine blk_drewN ?_ _ | refine blk_drew ?_ | refine blk_alloc ?_ _)); exact BK104.out)) : gb104 ≠ gb106)); have n6_ := Aside0.mk ((by rw [hg]; exact Nat.ne_of_gt (blk_lt (g := gb104) (o := .cells #[.int .i64 a0_0, .slice (some ad105) l0_1.length c0_1] 24 (0, 0)) (by (with_reducible repeat (first | refine blk_drewN ?_ _ | refine blk_drew ?_ | refine blk_alloc ?_ _)); exact BK104.out)) : gb106 ≠ gb104)); clear BK104; clear HB; have BK104 := n0_; have HB := n1_; have BK106 := n2_; have GW106 := n3_; have GE106 := n4_; have NB104_106 := n5_; have NB106_104 := n6_; clear n0_ n1_ n2_ n3_ n4_ n5_ n6_; clear hb hbox hg; have hnb33 := NB106_104.out; have hnc33 := NB104_106.out; have hcz34_0 : w32.cell? ⟨gb106, 0, none⟩ = some (.int .i64 0) := (blk_cell BK106.out 0).trans rfl; have hcz34_1 : w32.cell? ⟨gb106, 1, none⟩ = some (.int .i64 0) := (blk_cell BK106.out 1).trans rfl; have hcz34_2 : w32.cell? ⟨gb106, 2, none⟩ = some (.int .i64 0) := (blk_cell BK106.out 2).trans rfl; have hfz34_0 := blk_frozen BK106.out 0; have hfz34_1 := blk_frozen BK106.out 1; have hfz34_2 := blk_frozen BK106.out 2; have hcz35_0 : w32.cell? ⟨gb104, 0, none⟩ = some (.int .i64 a0_0) := (blk_cell BK104.out 0).trans rfl; have hcz35_1 : w32.cell? ⟨gb104, 1, none⟩ = some (.slice (some ad105) l0_1.length c0_1) := (blk_cell BK104.out 1).trans rfl; have hfz35_0 := blk_frozen BK104.out 0; have hfz35_1 := blk_frozen BK104.out 1))
             go_ret
             exact ⟨by first | rfl | (simp [errW_none, errW_some] <;> rfl) | (simp [*, errW_none, errW_some] <;> rfl), by repeat (first | (with_reducible first | exact HB.out | apply below_alloc | apply pw_below_drewN | apply below_drew1 | refine below_set ?_ GE104.out | refine below_set ?_ GE106.out) | exact HB.out)⟩
            ·rw [if_neg c30] at H
             have c30b0 : decide (a0_0 ≤ ((rd_T36 l0_1 x3_2).f1)) = false := decide_eq_false c30
             clear c30
             by_cases c36 : ((rd_T36 l0_1 x3_2).f2) < 0
             ·rw [if_pos c36] at H
              have c36b0 : decide (((rd_T36 l0_1 x3_2).f2) < 0) = true := decide_eq_true c36
              clear c36
              obtain rfl := Option.some.inj H
              have hcz37_0 : wr.cell? ⟨gb104, 0, none⟩ = some (.int .i64 a0_0) := (blk_cell BK104.out 0).trans rfl
              have hcz37_1 : wr.cell? ⟨gb104, 1, none⟩ = some (.slice A0_1 l0_1.length c0_1) := (blk_cell BK104.out 1).trans rfl
              have hfz37_0 := blk_frozen BK104.out 0
              have hfz37_1 := blk_frozen BK104.out 1
              have p105 : 0 ≤ (x3_2 : Int) := of_decide_eq_true (by first | (with_reducible assumption) | assumption)
              have q105 : x3_2 < (l0_1.length : Int) := of_decide_eq_true (by first | (with_reducible assumption) | assumption)
              obtain ⟨ad105, e105, hx105_0, hx105_1, hx105_2⟩ := at_T36 HR0_1.out x3_2 p105 q105
              cases e105
              replace hx105_0 := (HB.out.cell (World.block_lt_of_cell? w _ hx105_0)).trans hx105_0
              replace hx105_1 := (HB.out.cell (World.block_lt_of_cell? w _ hx105_1)).trans hx105_1
              replace hx105_2 := (HB.out.cell (World.block_lt_of_cell? w _ hx105_2)).trans hx105_2
              replace p105 := eq_true p105
              replace q105 := eq_true q105
              go_wp2_with (first | ((with_reducible refine gate_dst (N := 4) rfl ?_); refine box_event ?hg (N := 4) ?hd (cs := #[.int .i64 0, .int .i64 0, .int .i64 0]) (t := 36) ?hr ?_; (case hd => rfl); (case hg => rfl); (case hr => first | (go_simp; done) | (go_simp; rfl)); intro gb106 hg w38 hbox hb; have n0_ := Aside0.mk (blk_below (g := gb104) (o := .cells #[.int .i64 a0_0, .slice (some ad105) l0_1.length c0_1] 24 (0, 0)) (by (with_reducible repeat (first | refine blk_drewN ?_ _ | refine blk_drew ?_ | refine blk_alloc ?_ _)); exact BK104.out) hb); have n1_ := Aside0.mk (below_step (by repeat (first | (with_reducible first | exact HB.out | apply below_alloc | apply pw_below_drewN | apply below_drew1 | refine below_set ?_ GE104.out) | exact HB.out)) hb); have n2_ := Aside0.mk (hbox); have n3_ := Aside0.mk ((by rw [hg]; exact (below_size (by repeat (first | (with_reducible first | exact HB.out | apply below_alloc | apply pw_below_drewN | apply below_drew1 | refine below_set ?_ GE104.out) | exact HB.out))) : w.heap.size ≤ gb106)); have n4_ := Aside0.mk ((by rw [hg]; exact (below_size (by repeat (first | (with_reducible first | exact HB.out | apply below_alloc | apply pw_below_drewN | apply below_drew1 | refine below_set ?_ GE104.out) | exact HB.out))) : w.heap.size ≤ gb106)); have n5_ := Aside0.mk ((by rw [hg]; exact Nat.ne_of_lt (blk_lt (g := gb104) (o := .cells #[.int .i64 a0_0, .slice (some ad105) l0_1.length c0_1] 24 (0, 0)) (by (with_reducible repeat (first | refine blk_drewN ?_ _ | refine blk_drew ?_ | refine blk_alloc ?_ _)); exact BK104.out)) : gb104 ≠ gb106)); have n6_ := Aside0.mk ((by rw [hg]; exact Nat.ne_of_gt (blk_lt (g := gb104) (o := .cells #[.int .i64 a0_0, .slice (some ad105) l0_1.length c0_1] 24 (0, 0)) (by (with_reducible repeat (first | refine blk_drewN ?_ _ | refine blk_drew ?_ | refine blk_alloc ?_ _)); exact BK104.out)) : gb106 ≠ gb104)); clear BK104; clear HB; have BK104 := n0_; have HB := n1_; have BK106 := n2_; have GW106 := n3_; have GE106 := n4_; have NB104_106 := n5_; have NB106_104 := n6_; clear n0_ n1_ n2_ n3_ n4_ n5_ n6_; clear hb hbox hg; have hnb39 := NB106_104.out; have hnc39 := NB104_106.out; have hcz40_0 : w38.cell? ⟨gb106, 0, none⟩ = some (.int .i64 0) := (blk_cell BK106.out 0).trans rfl; have hcz40_1 : w38.cell? ⟨gb106, 1, none⟩ = some (.int .i64 0) := (blk_cell BK106.out 1).trans rfl; have hcz40_2 : w38.cell? ⟨gb106, 2, none⟩ = some (.int .i64 0) := (blk_cell BK106.out 2).trans rfl; have hfz40_0 := blk_frozen BK106.out 0; have hfz40_1 := blk_frozen BK106.out 1; have hfz40_2 := blk_frozen BK106.out 2; have hcz41_0 : w38.cell? ⟨gb104, 0, none⟩ = some (.int .i64 a0_0) := (blk_cell BK104.out 0).trans rfl; have hcz41_1 : w38.cell? ⟨gb104, 1, none⟩ = some (.slice (some ad105) l0_1.length c0_1) := (blk_cell BK104.out 1).trans rfl; have hfz41_0 := blk_frozen BK104.out 0; have hfz41_1 := blk_frozen BK104.out 1))
              go_ret
              exact ⟨by first | rfl | (simp [errW_none, errW_some] <;> rfl) | (simp [*, errW_none, errW_some] <;> rfl), by repeat (first | (with_reducible first | exact HB.out | apply below_alloc | apply pw_below_drewN | apply below_drew1 | refine below_set ?_ GE104.out | refine below_set ?_ GE106.out) | exact HB.out)⟩
             ·rw [if_neg c36] at H
              have c36b0 : decide (((rd_T36 l0_1 x3_2).f2) < 0) = false := decide_eq_false c36
              clear c36
              by_cases c42 : ((rd_T36 l0_1 x3_2).f2) > 1099511627776
              ·rw [if_pos c42] at H
               have c42b0 : decide (1099511627776 < ((rd_T36 l0_1 x3_2).f2)) = true := decide_eq_true c42
               clear c42
               obtain rfl := Option.some.inj H
               have hcz43_0 : wr.cell? ⟨gb104, 0, none⟩ = some (.int .i64 a0_0) := (blk_cell BK104.out 0).trans rfl
               have hcz43_1 : wr.cell? ⟨gb104, 1, none⟩ = some (.slice A0_1 l0_1.length c0_1) := (blk_cell BK104.out 1).trans rfl
               have hfz43_0 := blk_frozen BK104.out 0
               have hfz43_1 := blk_frozen BK104.out 1
               have p105 : 0 ≤ (x3_2 : Int) := of_decide_eq_true (by first | (with_reducible assumption) | assumption)
               have q105 : x3_2 < (l0_1.length : Int) := of_decide_eq_true (by first | (with_reducible assumption) | assumption)
               obtain ⟨ad105, e105, hx105_0, hx105_1, hx105_2⟩ := at_T36 HR0_1.out x3_2 p105 q105
               cases e105
               replace hx105_0 := (HB.out.cell (World.block_lt_of_cell? w _ hx105_0)).trans hx105_0
               replace hx105_1 := (HB.out.cell (World.block_lt_of_cell? w _ hx105_1)).trans hx105_1
               replace hx105_2 := (HB.out.cell (World.block_lt_of_cell? w _ hx105_2)).trans hx105_2
               replace p105 := eq_true p105
               replace q105 := eq_true q105
               go_wp2_with (first | ((with_reducible refine gate_dst (N := 4) rfl ?_); refine box_event ?hg (N := 4) ?hd (cs := #[.int .i64 0, .int .i64 0, .int .i64 0]) (t := 36) ?hr ?_; (case hd => rfl); (case hg => rfl); (case hr => first | (go_simp; done) | (go_simp; rfl)); intro gb106 hg w44 hbox hb; have n0_ := Aside0.mk (blk_below (g := gb104) (o := .cells #[.int .i64 a0_0, .slice (some ad105) l0_1.length c0_1] 24 (0, 0)) (by (with_reducible repeat (first | refine blk_drewN ?_ _ | refine blk_drew ?_ | refine blk_alloc ?_ _)); exact BK104.out) hb); have n1_ := Aside0.mk (below_step (by repeat (first | (with_reducible first | exact HB.out | apply below_alloc | apply pw_below_drewN | apply below_drew1 | refine below_set ?_ GE104.out) | exact HB.out)) hb); have n2_ := Aside0.mk (hbox); have n3_ := Aside0.mk ((by rw [hg]; exact (below_size (by repeat (first | (with_reducible first | exact HB.out | apply below_alloc | apply pw_below_drewN | apply below_drew1 | refine below_set ?_ GE104.out) | exact HB.out))) : w.heap.size ≤ gb106)); have n4_ := Aside0.mk ((by rw [hg]; exact (below_size (by repeat (first | (with_reducible first | exact HB.out | apply below_alloc | apply pw_below_drewN | apply below_drew1 | refine below_set ?_ GE104.out) | exact HB.out))) : w.heap.size ≤ gb106)); have n5_ := Aside0.mk ((by rw [hg]; exact Nat.ne_of_lt (blk_lt (g := gb104) (o := .cells #[.int .i64 a0_0, .slice (some ad105) l0_1.length c0_1] 24 (0, 0)) (by (with_reducible repeat (first | refine blk_drewN ?_ _ | refine blk_drew ?_ | refine blk_alloc ?_ _)); exact BK104.out)) : gb104 ≠ gb106)); have n6_ := Aside0.mk ((by rw [hg]; exact Nat.ne_of_gt (blk_lt (g := gb104) (o := .cells #[.int .i64 a0_0, .slice (some ad105) l0_1.length c0_1] 24 (0, 0)) (by (with_reducible repeat (first | refine blk_drewN ?_ _ | refine blk_drew ?_ | refine blk_alloc ?_ _)); exact BK104.out)) : gb106 ≠ gb104)); clear BK104; clear HB; have BK104 := n0_; have HB := n1_; have BK106 := n2_; have GW106 := n3_; have GE106 := n4_; have NB104_106 := n5_; have NB106_104 := n6_; clear n0_ n1_ n2_ n3_ n4_ n5_ n6_; clear hb hbox hg; have hnb45 := NB106_104.out; have hnc45 := NB104_106.out; have hcz46_0 : w44.cell? ⟨gb106, 0, none⟩ = some (.int .i64 0) := (blk_cell BK106.out 0).trans rfl; have hcz46_1 : w44.cell? ⟨gb106, 1, none⟩ = some (.int .i64 0) := (blk_cell BK106.out 1).trans rfl; have hcz46_2 : w44.cell? ⟨gb106, 2, none⟩ = some (.int .i64 0) := (blk_cell BK106.out 2).trans rfl; have hfz46_0 := blk_frozen BK106.out 0; have hfz46_1 := blk_frozen BK106.out 1; have hfz46_2 := blk_frozen BK106.out 2; have hcz47_0 : w44.cell? ⟨gb104, 0, none⟩ = some (.int .i64 a0_0) := (blk_cell BK104.out 0).trans rfl; have hcz47_1 : w44.cell? ⟨gb104, 1, none⟩ = some (.slice (some ad105) l0_1.length c0_1) := (blk_cell BK104.out 1).trans rfl; have hfz47_0 := blk_frozen BK104.out 0; have hfz47_1 := blk_frozen BK104.out 1))
               go_ret
               exact ⟨by first | rfl | (simp [errW_none, errW_some] <;> rfl) | (simp [*, errW_none, errW_some] <;> rfl), by repeat (first | (with_reducible first | exact HB.out | apply below_alloc | apply pw_below_drewN | apply below_drew1 | refine below_set ?_ GE104.out | refine below_set ?_ GE106.out) | exact HB.out)⟩
              ·rw [if_neg c42] at H
               have c42b0 : decide (1099511627776 < ((rd_T36 l0_1 x3_2).f2)) = false := decide_eq_false c42
               clear c42
               have H' := Aside0.mk H
               clear H
               have hcz48_0 : wr.cell? ⟨gb104, 0, none⟩ = some (.int .i64 a0_0) := (blk_cell BK104.out 0).trans rfl
               have hcz48_1 : wr.cell? ⟨gb104, 1, none⟩ = some (.slice A0_1 l0_1.length c0_1) := (blk_cell BK104.out 1).trans rfl
               have hfz48_0 := blk_frozen BK104.out 0
               have hfz48_1 := blk_frozen BK104.out 1
               have p105 : 0 ≤ (x3_2 : Int) := of_decide_eq_true (by first | (with_reducible assumption) | assumption)
               have q105 : x3_2 < (l0_1.length : Int) := of_decide_eq_true (by first | (with_reducible assumption) | assumption)
               obtain ⟨ad105, e105, hx105_0, hx105_1, hx105_2⟩ := at_T36 HR0_1.out x3_2 p105 q105
               cases e105
               replace hx105_0 := (HB.out.cell (World.block_lt_of_cell? w _ hx105_0)).trans hx105_0
               replace hx105_1 := (HB.out.cell (World.block_lt_of_cell? w _ hx105_1)).trans hx105_1
               replace hx105_2 := (HB.out.cell (World.block_lt_of_cell? w _ hx105_2)).trans hx105_2
               replace p105 := eq_true p105
               replace q105 := eq_true q105
               go_wp2_with (first | ((with_reducible refine gate_dst (N := 4) rfl ?_); refine box_event ?hg (N := 4) ?hd (cs := #[.int .i64 0, .int .i64 0, .int .i64 0]) (t := 36) ?hr ?_; (case hd => rfl); (case hg => rfl); (case hr => first | (go_simp; done) | (go_simp; rfl)); intro gb106 hg w49 hbox hb; have n0_ := Aside0.mk (blk_below (g := gb104) (o := .cells #[.int .i64 a0_0, .slice (some ad105) l0_1.length c0_1] 24 (0, 0)) (by (with_reducible repeat (first | refine blk_drewN ?_ _ | refine blk_drew ?_ | refine blk_alloc ?_ _)); exact BK104.out) hb); have n1_ := Aside0.mk (below_step (by repeat (first | (with_reducible first | exact HB.out | apply below_alloc | apply pw_below_drewN | apply below_drew1 | refine below_set ?_ GE104.out) | exact HB.out)) hb); have n2_ := Aside0.mk (hbox); have n3_ := Aside0.mk ((by rw [hg]; exact (below_size (by repeat (first | (with_reducible first | exact HB.out | apply below_alloc | apply pw_below_drewN | apply below_drew1 | refine below_set ?_ GE104.out) | exact HB.out))) : w.heap.size ≤ gb106)); have n4_ := Aside0.mk ((by rw [hg]; exact (below_size (by repeat (first | (with_reducible first | exact HB.out | apply below_alloc | apply pw_below_drewN | apply below_drew1 | refine below_set ?_ GE104.out) | exact HB.out))) : w.heap.size ≤ gb106)); have n5_ := Aside0.mk ((by rw [hg]; exact Nat.ne_of_lt (blk_lt (g := gb104) (o := .cells #[.int .i64 a0_0, .slice (some ad105) l0_1.length c0_1] 24 (0, 0)) (by (with_reducible repeat (first | refine blk_drewN ?_ _ | refine blk_drew ?_ | refine blk_alloc ?_ _)); exact BK104.out)) : gb104 ≠ gb106)); have n6_ := Aside0.mk ((by rw [hg]; exact Nat.ne_of_gt (blk_lt (g := gb104) (o := .cells #[.int .i64 a0_0, .slice (some ad105) l0_1.length c0_1] 24 (0, 0)) (by (with_reducible repeat (first | refine blk_drewN ?_ _ | refine blk_drew ?_ | refine blk_alloc ?_ _)); exact BK104.out)) : gb106 ≠ gb104)); clear BK104; clear HB; have BK104 := n0_; have HB := n1_; have BK106 := n2_; have GW106 := n3_; have GE106 := n4_; have NB104_106 := n5_; have NB106_104 := n6_; clear n0_ n1_ n2_ n3_ n4_ n5_ n6_; clear hb hbox hg; have hnb50 := NB106_104.out; have hnc50 := NB104_106.out; have hcz51_0 : w49.cell? ⟨gb106, 0, none⟩ = some (.int .i64 0) := (blk_cell BK106.out 0).trans rfl; have hcz51_1 : w49.cell? ⟨gb106, 1, none⟩ = some (.int .i64 0) := (blk_cell BK106.out 1).trans rfl; have hcz51_2 : w49.cell? ⟨gb106, 2, none⟩ = some (.int .i64 0) := (blk_cell BK106.out 2).trans rfl; have hfz51_0 := blk_frozen BK106.out 0; have hfz51_1 := blk_frozen BK106.out 1; have hfz51_2 := blk_frozen BK106.out 2; have hcz52_0 : w49.cell? ⟨gb104, 0, none⟩ = some (.int .i64 a0_0) := (blk_cell BK104.out 0).trans rfl; have hcz52_1 : w49.cell? ⟨gb104, 1, none⟩ = some (.slice (some ad105) l0_1.length c0_1) := (blk_cell BK104.out 1).trans rfl; have hfz52_0 := blk_frozen BK104.out 0; have hfz52_1 := blk_frozen BK104.out 1))
               go_roundg k2
               case measure => have := HJ1.out; have := HK2.out; omega
               case rel => exact ⟨(wrap64 (x3_2 + 1)), (by first | rfl | (simp; done) | (simp [*]; done)), H', ⟨by have := HJ1.out; have := HK2.out; omega⟩, ⟨by (with_reducible repeat (first | refine blk_drewN ?_ _ | refine blk_drew ?_ | refine blk_alloc ?_ _)); refine blk_far ?_ NB104_106.out _; (with_reducible repeat (first | refine blk_drewN ?_ _ | refine blk_drew ?_ | refine blk_alloc ?_ _)); refine blk_far ?_ NB104_106.out _; (with_reducible repeat (first | refine blk_drewN ?_ _ | refine blk_drew ?_ | refine blk_alloc ?_ _)); refine blk_far ?_ NB104_106.out _; (with_reducible repeat (first | refine blk_drewN ?_ _ | refine blk_drew ?_ | refine blk_alloc ?_ _)); exact BK104.out⟩, ⟨by repeat (first | (with_reducible first | exact HB.out | apply below_alloc | apply pw_below_drewN | apply below_drew1 | refine below_set ?_ GE104.out | refine below_set ?_ GE106.out) | exact HB.out)⟩⟩
        ·rw [if_neg c12] at H
         exact absurd H (by simp)
       ·rw [if_neg c11] at H
        have c11b0 : decide (x3_2 < (l0_1.length : Int)) = false := decide_eq_false c11
        clear c11
        obtain rfl := Option.some.inj H
        have hcz53_0 : wr.cell? ⟨gb104, 0, none⟩ = some (.int .i64 a0_0) := (blk_cell BK104.out 0).trans rfl
        have hcz53_1 : wr.cell? ⟨gb104, 1, none⟩ = some (.slice A0_1 l0_1.length c0_1) := (blk_cell BK104.out 1).trans rfl
        have hfz53_0 := blk_frozen BK104.out 0
        have hfz53_1 := blk_frozen BK104.out 1
        go_wp2
        go_ret
        exact ⟨by first | rfl | (simp [errW_none, errW_some] <;> rfl) | (simp [*, errW_none, errW_some] <;> rfl), by repeat (first | (with_reducible first | exact HB.out | apply below_alloc | apply pw_below_drewN | apply below_drew1 | refine below_set ?_ GE104.out) | exact HB.out)⟩

end Go.Proofs.Ytidomjhihfoabaa.PF
