-- thin
-- printed by a program out of Lean's own print of the program (the kit's print.py, one namespace for several laws)
import Derived.Test.YtidomjhihfoabaaPFx0
namespace Go.Proofs.Ytidomjhihfoabaa.PF
open Go.RowKit Go.Proofs.YtidomjhihfoabaaW.PrintWords Go.Proofs.YtidomjhihfoabaaW.PrintLast Go.Proofs.YtidomjhihfoabaaW.PrintMore
attribute [local go_sem] max2_int min2_int max_two min_two max_three min_three max_four min_four   -- for this text's walks alone
set_option linter.unusedVariables false
set_option linter.unusedSimpArgs false

/-! ### codewrightref51_Given: function 29 -/
def codewrightref51_Given.l0 : Nat → List Int → Int → Int → Int → List (S36) → Option (Int × (List (S36)))
 | 0, _, _, _, _, _ => none
 | k + 1, x1, x2, x8, x350000, x350001 => if x8 < (x1.length : Int) then (if 0 ≤ x8 then (if 0 ≤ (rd x1 x8) then (if (rd x1 x8) < (x350001.length : Int) then (codewrightref51_Given.l0 k x1 x2 (wrap64 (x8 + 1)) x350000 (x350001.set ((rd x1 x8) : Int).toNat (⟨(rd_T36 x350001 (rd x1 x8)).f0, (rd_T36 x350001 (rd x1 x8)).f1, x2⟩ : S36))) else (none)) else (none)) else (none)) else (some (x350000, x350001))
def codewrightref51_Given.f (k : Nat) (a0_0 : Int) (l0_1 : List (S36)) (l1 : List Int) (a2 : Int) : Option (Int × (List (S36))) := (some (([] : List (S36)) : List (S36))).bind fun y343 => (if y343.length + l0_1.length < 5864062014805 then (codewrightref51_Given.l0 k l1 a2 0 a0_0 (y343 ++ l0_1)) else (none))
theorem codewrightref51_Given.mono_l : ∀ k, (∀ y0 y1 y2 y3 y4, LeO (codewrightref51_Given.l0 k y0 y1 y2 y3 y4) (codewrightref51_Given.l0 (k + 1) y0 y1 y2 y3 y4))
 | 0 => fun _ _ _ _ _ r h => by simp [codewrightref51_Given.l0] at h
 | k + 1 => by
  have ih0 := codewrightref51_Given.mono_l k
  ·intro y0 y1 y2 y3 y4
   unfold codewrightref51_Given.l0
   repeat' first
   | (with_reducible exact ih0 _ _ _ _ _)
   | (with_reducible exact LeO.refl _)
   | (with_reducible exact LeO.none _)
   | (with_reducible refine LeO.ite ?_ ?_)
   | (with_reducible refine LeO.bind ?_ (fun _ => ?_))
   | exact ih0 _ _ _ _ _
   | exact LeO.none _
   | refine LeO.ite ?_ ?_
   | refine LeO.bind ?_ (fun _ => ?_)
theorem codewrightref51_Given.mono : ∀ a0 a1 a2 a3 k, LeO (codewrightref51_Given.f k a0 a1 a2 a3) (codewrightref51_Given.f (k + 1) a0 a1 a2 a3) := by
 intro a0 a1 a2 a3 k
 have ih0 := codewrightref51_Given.mono_l k
 unfold codewrightref51_Given.f
 repeat' first
   | (with_reducible exact ih0 _ _ _ _ _)
   | (with_reducible exact LeO.refl _)
   | (with_reducible exact LeO.none _)
   | (with_reducible refine LeO.ite ?_ ?_)
   | (with_reducible refine LeO.bind ?_ (fun _ => ?_))
   | exact ih0 _ _ _ _ _
   | exact LeO.none _
   | refine LeO.ite ?_ ?_
   | refine LeO.bind ?_ (fun _ => ?_)
def codewrightref51_Given.T1 : Bool × List (List Nat × List Nat) := (true, [([], []), ([0], [0]), ([], []), ([], []), ([3], [3]), ([2, 4], [2, 4]), ([1, 5], [1, 5]), ([], []), ([7, 6, 5, 0, 1, 2, 3, 4, 5, 6, 7], [6, 7])])
def codewrightref51_Given.B1 : List Nat := [0, 1, 0, 0, 8, 28, 63, 0, 255]
theorem codewrightref51_Given.tab1 : rtab .any (opsOf Try.f29 1) = codewrightref51_Given.T1 := by kernel_rfl
theorem codewrightref51_Given.bits1 : waitsOk codewrightref51_Given.T1.2 codewrightref51_Given.B1 = true := by kernel_rfl
def codewrightref51_Given.T5 : Bool × List (List Nat × List Nat) := (true, [([], []), ([0], [0]), ([], []), ([], []), ([2, 3], [2, 3]), ([4], [4]), ([], []), ([1, 5, 0, 1, 2, 3, 4, 5, 6], [1, 5]), ([7, 0, 1, 2, 3, 4, 5, 6], [7]), ([8, 6, 0, 1, 2, 3, 4, 5, 6], [6, 8])])
def codewrightref51_Given.B5 : List Nat := [0, 1, 0, 0, 12, 28, 0, 127, 255, 511]
theorem codewrightref51_Given.tab5 : rtab .any (opsOf Try.f29 5) = codewrightref51_Given.T5 := by kernel_rfl
theorem codewrightref51_Given.bits5 : waitsOk codewrightref51_Given.T5.2 codewrightref51_Given.B5 = true := by kernel_rfl
set_option maxHeartbeats 8000000 in
set_option maxRecDepth 100000 in
theorem codewrightref51_Given.calls (k : Nat) (a0_0 : Int) (A0_1 : Option Addr) (c0_1 : Nat) (l0_1 : List (S36)) (A1 : Option Addr) (c1 : Nat) (l1 : List Int) (a2 : Int) (r1 : Int) (r2 : List (S36)) (w : World) (hr0_1 : Kd.C k36 w A0_1 l0_1.length l0_1) (hc0_1 : l0_1.length ≤ c0_1) (hr1 : Kd.C (Kd.int .i64) w A1 l1.length l1) (hc1 : l1.length ≤ c1) (h : codewrightref51_Given.f k a0_0 l0_1 l1 a2 = some (r1, r2)) :
  Calls Try.prog 29 #[.agg #[.int .i64 a0_0, .slice A0_1 l0_1.length c0_1], .slice A1 l1.length c1, .int .i64 a2] w fun e w' => ∃ v1_ : Value, e = .returned (.agg #[.int .i64 r1, v1_]) ∧ Kd.R k36 36 w' w.heap.size (fun _ => True) v1_ r2 ∧ Below w.heap.size w w' := by
 have hu24 := Try.underlying24
 have HR0_1 := Aside0.mk hr0_1
 have HC0_1 := Aside0.mk hc0_1
 clear hr0_1 hc0_1
 have HR1 := Aside0.mk hr1
 have HC1 := Aside0.mk hc1
 clear hr1 hc1
 have HB := Aside0.mk (Below.refl w.heap.size w)
 have H : ((some (([] : List (S36)) : List (S36))).bind fun y343 => (if y343.length + l0_1.length < 5864062014805 then (codewrightref51_Given.l0 k l1 a2 0 a0_0 (y343 ++ l0_1)) else (none))) = some (r1, r2) := h
 clear h
 obtain ⟨y343, hy343⟩ : ∃ y_ : List (S36), y_ = (([] : List (S36))) := ⟨_, rfl⟩
 replace H : (if y343.length + l0_1.length < 5864062014805 then (codewrightref51_Given.l0 k l1 a2 0 a0_0 (y343 ++ l0_1)) else (none)) = some (r1, r2) := by first | (rw [hy343]; with_reducible exact H) | (have H2_ := (Option.bind_some _ _).symm.trans H; rw [hy343]; with_reducible exact H2_) | (have H2_ := (Option.bind_some _ _).symm.trans H; with_reducible exact H2_) | with_reducible exact H | (rw [hy343]; exact H) | exact H
 have Ny343 := Aside0.mk hy343
 clear hy343
 by_cases c4 : y343.length + l0_1.length < 5864062014805
 ·rw [if_pos c4] at H
  have LMc4 := Aside0.mk c4
  clear c4
  obtain ⟨y346, hy346⟩ : ∃ y_ : List (S36), y_ = (y343 ++ l0_1) := ⟨_, rfl⟩
  replace H : (codewrightref51_Given.l0 k l1 a2 0 a0_0 y346) = some (r1, r2) := by first | (rw [hy346]; with_reducible exact H) | (have H2_ := (Option.bind_some _ _).symm.trans H; rw [hy346]; with_reducible exact H2_) | (have H2_ := (Option.bind_some _ _).symm.trans H; with_reducible exact H2_) | with_reducible exact H | (rw [hy346]; exact H) | exact H
  have Ny346 := Aside0.mk hy346
  clear hy346
  have H' := Aside0.mk H
  clear H
  go_enter Try.func29, Try.ntmps29
  try go_wp2_with (first | ((with_reducible refine gate_dst (N := 3) rfl ?_); refine box_event ?hg (N := 3) ?hd (cs := #[.int .i64 a0_0, .slice A0_1 l0_1.length c0_1]) (t := 24) ?hr ?_; (case hd => rfl); (case hg => rfl); (case hr => first | (go_simp; done) | (go_simp; rfl)); intro gb341 hg w5 hbox hb; have n0_ := Aside0.mk (below_step (by repeat (first | (with_reducible first | exact HB.out | apply below_alloc | apply pw_below_drewN | apply below_drew1) | exact HB.out)) hb); have n1_ := Aside0.mk (hbox); have n2_ := Aside0.mk ((by rw [hg]; exact (below_size (by repeat (first | (with_reducible first | exact HB.out | apply below_alloc | apply pw_below_drewN | apply below_drew1) | exact HB.out))) : w.heap.size ≤ gb341)); have n3_ := Aside0.mk ((by rw [hg]; exact (below_size (by repeat (first | (with_reducible first | exact HB.out | apply below_alloc | apply pw_below_drewN | apply below_drew1) | exact HB.out))) : w.heap.size ≤ gb341)); clear HB; have HB := n0_; have BK341 := n1_; have GW341 := n2_; have GE341 := n3_; clear n0_ n1_ n2_ n3_; clear hb hbox hg) | ((with_reducible refine gate_dst (N := 6) rfl ?_); refine box_event ?hg (N := 6) ?hd (cs := #[.int .i64 0, .slice none 0 0]) (t := 24) ?hr ?_; (case hd => rfl); (case hg => rfl); (case hr => first | (go_simp; done) | (go_simp; rfl)); intro gb342 hg w6 hbox hb; have n0_ := Aside0.mk (blk_below (g := gb341) (o := .cells #[.int .i64 a0_0, .slice A0_1 l0_1.length c0_1] 24 (0, 0)) (by (with_reducible repeat (first | refine blk_drewN ?_ _ | refine blk_drew ?_ | refine blk_alloc ?_ _)); exact BK341.out) hb); have n1_ := Aside0.mk (below_step (by repeat (first | (with_reducible first | exact HB.out | apply below_alloc | apply pw_below_drewN | apply below_drew1 | refine below_set ?_ GE341.out) | exact HB.out)) hb); have n2_ := Aside0.mk (hbox); have n3_ := Aside0.mk ((by rw [hg]; exact (below_size (by repeat (first | (with_reducible first | exact HB.out | apply below_alloc | apply pw_below_drewN | apply below_drew1 | refine below_set ?_ GE341.out) | exact HB.out))) : w.heap.size ≤ gb342)); have n4_ := Aside0.mk ((by rw [hg]; exact (below_size (by repeat (first | (with_reducible first | exact HB.out | apply below_alloc | apply pw_below_drewN | apply below_drew1 | refine below_set ?_ GE341.out) | exact HB.out))) : w.heap.size ≤ gb342)); have n5_ := Aside0.mk ((by rw [hg]; exact Nat.ne_of_lt (blk_lt (g := gb341) (o := .cells #[.int .i64 a0_0, .slice A0_1 l0_1.length c0_1] 24 (0, 0)) (by (with_reducible repeat (first | refine blk_drewN ?_ _ | refine blk_drew ?_ | refine blk_alloc ?_ _)); exact BK341.out)) : gb341 ≠ gb342)); have n6_ := Aside0.mk ((by rw [hg]; exact Nat.ne_of_gt (blk_lt (g := gb341) (o := .cells #[.int .i64 a0_0, .slice A0_1 l0_1.length c0_1] 24 (0, 0)) (by (with_reducible repeat (first | refine blk_drewN ?_ _ | refine blk_drew ?_ | refine blk_alloc ?_ _)); exact BK341.out)) : gb342 ≠ gb341)); clear BK341; clear HB; have BK341 := n0_; have HB := n1_; have BK342 := n2_; have GW342 := n3_; have GE342 := n4_; have NB341_342 := n5_; have NB342_341 := n6_; clear n0_ n1_ n2_ n3_ n4_ n5_ n6_; clear hb hbox hg))
  have n0_ := Aside0.mk (blk_drew BK341.out)
  have n1_ := Aside0.mk (blk_drew BK342.out)
  have n2_ := Aside0.mk (below_drew1 HB.out)
  clear BK341
  clear BK342
  clear HB
  have BK341 := n0_
  have BK342 := n1_
  have HB := n2_
  clear n0_ n1_ n2_
  refine start_ (n := 9) (S := fun w' => w'.cell? ⟨gb341, 0, none⟩ = some (.int .i64 a0_0) ∧ w'.cell? ⟨gb341, 1, none⟩ = some (.slice A0_1 l0_1.length c0_1)) (ds := []) #[false, false, false, false, false, false, false, false, false] (by kernel_rfl) rfl rfl ⟨(blk_cell BK341.out 0).trans rfl, (blk_cell BK341.out 1).trans rfl⟩ (fun hHeld => ?_); refine with_tabW codewrightref51_Given.tab1 codewrightref51_Given.bits1 (fun HT_ HW_ => ?_)
  generalize w6.drew = w7 at BK341 BK342 HB hHeld ⊢
  refine pure_ (i := 0) (N := some 9) (v := ?_) (a' := ?_) #[true, false, false, false, false, false, false, false, false] rfl rfl (any_of HT_.out (by kernel_rfl)) (fun _ _ _ h => h) (Or.inl ⟨by rfl, ?_⟩) ?_ ?_
  rotate_left
  ·intro w'
   go_simp
   with_reducible rfl
  rotate_left
  ·simp only [Act.put, List.setIfInBounds_toArray, List.set_cons_zero, List.set_cons_succ, i64_w, i32_w]
   rfl
  refine pure_ (i := 3) (N := some 12) (v := ?_) (a' := ?_) #[true, false, false, true, false, false, false, false, false] rfl rfl (any_of HT_.out (by kernel_rfl)) (fun _ _ _ h => h) (Or.inl ⟨by rfl, ?_⟩) ?_ ?_
  rotate_left
  ·intro w'
   go_simp
   with_reducible rfl
  rotate_left
  ·simp only [Act.put, List.setIfInBounds_toArray, List.set_cons_zero, List.set_cons_succ, i64_w, i32_w]
   rfl
  refine take_ (i := 1) (N := some 10) (v := ?_) (a' := ?_) #[true, true, false, true, false, false, false, false, false] rfl rfl (take_ofW HT_.out HW_.out (by kernel_rfl)) (fun _ _ _ h => h) (Or.inl ⟨by rfl, ?_⟩) hHeld ?_ ?_
  rotate_left
  ·rintro w' ⟨s0, s1⟩
   go_simp
   with_reducible rfl
  rotate_left
  ·simp only [Act.put, List.setIfInBounds_toArray, List.set_cons_zero, List.set_cons_succ, i64_w, i32_w]
   rfl
  refine take_ (i := 4) (N := some 13) (v := ?_) (a' := ?_) #[true, true, false, true, true, false, false, false, false] rfl rfl (take_ofW HT_.out HW_.out (by kernel_rfl)) (fun _ _ _ h => h) (Or.inl ⟨by rfl, ?_⟩) hHeld ?_ ?_
  rotate_left
  ·rintro w' ⟨s0, s1⟩
   go_simp
   with_reducible rfl
  rotate_left
  ·simp only [Act.put, List.setIfInBounds_toArray, List.set_cons_zero, List.set_cons_succ, i64_w, i32_w]
   rfl
  refine join_ (σ := Value × Value × Nat) 1 #[true, true, true, true, true, true, true, true, false] (fun s_ => [(11, s_.1), (14, s_.2.1), (7, .pointer (some ⟨s_.2.2, 0, none⟩)), (15, .agg #[.int .i64 a0_0, s_.2.1])]) (fun s_ w' => (w'.cell? ⟨gb341, 0, none⟩ = some (.int .i64 a0_0) ∧ w'.cell? ⟨gb341, 1, none⟩ = some (.slice A0_1 l0_1.length c0_1)) ∧ (Kd.R k36 36 w' w.heap.size (fun _ => True) s_.2.1 y346) ∧ (w'.heap[gb341]? = some (.cells #[.int .i64 a0_0, .slice A0_1 l0_1.length c0_1] 24 (0, 0))) ∧ (w'.heap[gb342]? = some (.cells #[.int .i64 0, .slice none 0 0] 24 (0, 0))) ∧ (w'.heap[s_.2.2]? = some (.cells #[.int .i64 0, .slice none 0 0] 24 (0, 0))) ∧ (w.heap.size ≤ s_.2.2) ∧ (w.heap.size ≤ s_.2.2) ∧ (gb341 ≠ s_.2.2) ∧ (s_.2.2 ≠ gb341) ∧ (gb342 ≠ s_.2.2) ∧ (s_.2.2 ≠ gb342) ∧ (Below w.heap.size w w')) ?_ ?_
  rotate_left
  ·intro hCont
   refine two_ (i := 2) (j := 7) (Ni := some 11) (Nj := some 7) #[true, true, true, true, true, false, false, false, false] #[true, true, false, true, true, false, false, true, false] rfl rfl rfl rfl (two_of HT_.out (by kernel_rfl)) (by decide) (by decide) (fun K hK => ?_) (fun K hK => ?_)
   ·skip
    refine Kd.R_lit_step k36 _ 36 ?hg (N := 11) ?hd (xs := ([] : List (S36))) (inner := []) (ok := fun _ => True) (okp := fun _ => True) ?hr ?hp (fun _ hk => hk) trivial (Below.refl _ _) (Nat.le_refl _) (by simp) ?_; (case hd => rfl); (case hg => rfl); (case hr => first | (go_simp; done) | (go_simp; rfl)); (case hp => exact (Reps.none _ _))
    intro v344 w8 ho9 hb hg_ hnew_
    clear hg_ hnew_
    (first | rw [← Ny343.out] at ho9 | (simp only [Int.reduceToNat] at ho9; rw [← Ny343.out] at ho9))
    have n0_ := Aside0.mk (Kd.R_lower ho9 (below_size (by repeat (first | (with_reducible first | exact HB.out | apply below_alloc | apply pw_below_drewN | apply below_drew1 | refine below_set ?_ GE341.out | refine below_set ?_ GE342.out) | exact HB.out))))
    have n1_ := Aside0.mk (blk_below (g := gb341) (o := .cells #[.int .i64 a0_0, .slice A0_1 l0_1.length c0_1] 24 (0, 0)) (by (with_reducible repeat (first | refine blk_drewN ?_ _ | refine blk_drew ?_ | refine blk_alloc ?_ _)); exact BK341.out) hb)
    have n2_ := Aside0.mk (blk_below (g := gb342) (o := .cells #[.int .i64 0, .slice none 0 0] 24 (0, 0)) (by (with_reducible repeat (first | refine blk_drewN ?_ _ | refine blk_drew ?_ | refine blk_alloc ?_ _)); exact BK342.out) hb)
    have n3_ := Aside0.mk (below_step (by repeat (first | (with_reducible first | exact HB.out | apply below_alloc | apply pw_below_drewN | apply below_drew1 | refine below_set ?_ GE341.out | refine below_set ?_ GE342.out) | exact HB.out)) hb)
    clear BK341
    clear BK342
    clear HB
    have HO345 := n0_
    have BK341 := n1_
    have BK342 := n2_
    have HB := n3_
    clear n0_ n1_ n2_ n3_
    clear hb ho9
    refine hK.out _ _ ⟨(blk_cell BK341.out 0).trans rfl, (blk_cell BK341.out 1).trans rfl⟩ (fun hHeld => ?_)
    clear hK K
    refine norm_ (a' := ?_) ?_ ?_
    rotate_left
    ·show Act.put _ (some 11) _ = _
     simp only [Act.put, List.setIfInBounds_toArray, List.set_cons_zero, List.set_cons_succ, i64_w, i32_w]
     rfl
    refine two_ (i := 5) (j := 7) (Ni := some 14) (Nj := some 7) #[true, true, true, true, true, true, false, false, false] #[true, true, true, true, true, false, false, true, false] rfl rfl rfl rfl (two_of HT_.out (by kernel_rfl)) (by decide) (by decide) (fun K hK => ?_) (fun K hK => ?_)
    ·skip
     refine Kd.R_append_rows_step k36 (w0 := w) w.heap.size (by rfl) (.tmp 11) (.tmp 13) 22 36 (.agg #[(.int .i64 0), (.int .i64 0), (.int .i64 0)]) 24 rfl Try.underlying22 info36 rfl (by decide) (by omega) v344 y343 l0_1 _ _ _ (fun _ => True) (fun _ => False) rfl rfl ?aO ?aR (fun _ _ h => h) (fun _ h => h.elim) ?aF ?aB ?aS ?aL ?_
     (case aR => repeat (first | exact (Kd.C_below HR0_1.out HB.out) | (with_reducible refine Kd.C_alloc ?_ _) | (with_reducible refine Kd.C_drewN ?_ _) | (with_reducible refine Kd.C_drew ?_)))
     (case aB => exact (by repeat (first | (with_reducible first | exact HB.out | apply below_alloc | apply pw_below_drewN | apply below_drew1 | refine below_set ?_ GE341.out | refine below_set ?_ GE342.out) | exact HB.out)))
     (case aF => exact (fun _ _ => trivial))
     (case aO => exact (by (with_reducible repeat (first | apply Kd.R_alloc | apply Kd.R_drewN | apply Kd.R_drew)); exact HO345.out))
     (case aS => exact (below_size (by repeat (first | (with_reducible first | exact HB.out | apply below_alloc | apply pw_below_drewN | apply below_drew1 | refine below_set ?_ GE341.out | refine below_set ?_ GE342.out) | exact HB.out))))
     (case aL => have := LMc4.out; omega)
     intro v347 w10 ho hb hg hat
     rw [← Ny346.out] at ho
     have n0_ := Aside0.mk (blk_grown (g := gb341) (o := .cells #[.int .i64 a0_0, .slice A0_1 l0_1.length c0_1] 24 (0, 0)) (by (with_reducible repeat (first | refine blk_drewN ?_ _ | refine blk_drew ?_ | refine blk_alloc ?_ _)); exact BK341.out) hg (Kd.R_ne HO345.out BK341.out (by decide)))
     have n1_ := Aside0.mk (blk_grown (g := gb342) (o := .cells #[.int .i64 0, .slice none 0 0] 24 (0, 0)) (by (with_reducible repeat (first | refine blk_drewN ?_ _ | refine blk_drew ?_ | refine blk_alloc ?_ _)); exact BK342.out) hg (Kd.R_ne HO345.out BK342.out (by decide)))
     have n2_ := Aside0.mk (hb)
     have n3_ := Aside0.mk (ho)
     clear BK341
     clear BK342
     clear HB
     clear HO345
     have BK341 := n0_
     have BK342 := n1_
     have HB := n2_
     have HO348 := n3_
     clear n0_ n1_ n2_ n3_
     clear ho hb hg hat
     obtain ⟨Ao11, co11, eo11⟩ := Kd.R_slice HO348.out
     (first | subst eo11 | (injection eo11 with f1_ f2_ f3_; have f4_ := f1_.symm; have f5_ := f3_.symm; clear f1_ f2_ f3_; subst f4_; subst f5_))
     refine hK.out _ _ ⟨(blk_cell BK341.out 0).trans rfl, (blk_cell BK341.out 1).trans rfl⟩ (fun hHeld => ?_)
     clear hK K
     refine norm_ (a' := ?_) ?_ ?_
     rotate_left
     ·show Act.put _ (some 14) _ = _
      simp only [Act.put, List.setIfInBounds_toArray, List.set_cons_zero, List.set_cons_succ, i64_w, i32_w]
      rfl
     refine pure_ (i := 6) (N := some 15) (v := ?_) (a' := ?_) #[true, true, true, true, true, true, true, false, false] rfl rfl (any_of HT_.out (by kernel_rfl)) (fun _ _ _ h => h) (Or.inl ⟨by rfl, ?_⟩) ?_ ?_
     rotate_left
     ·intro w'
      go_simp
      with_reducible rfl
     rotate_left
     ·simp only [Act.put, List.setIfInBounds_toArray, List.set_cons_zero, List.set_cons_succ, i64_w, i32_w]
      rfl
     refine one_ (i := 7) (N := some 7) #[true, true, true, true, true, true, true, true, false] rfl rfl (one_of HT_.out (by kernel_rfl)) (by decide) (fun K hK => ?_)
     refine box_step ?hg (N := 7) ?hd (cs := #[.int .i64 0, .slice none 0 0]) (t := 24) ?hr ?_; (case hd => rfl); (case hg => rfl); (case hr => first | (go_simp; done) | (go_simp; rfl))
     intro gb349 hg w12 hbox hb
     have n0_ := Aside0.mk (Kd.R_below (by (with_reducible repeat (first | apply Kd.R_alloc | apply Kd.R_drewN | apply Kd.R_drew)); exact HO348.out) hb)
     have n1_ := Aside0.mk (blk_below (g := gb341) (o := .cells #[.int .i64 a0_0, .slice A0_1 l0_1.length c0_1] 24 (0, 0)) (by (with_reducible repeat (first | refine blk_drewN ?_ _ | refine blk_drew ?_ | refine blk_alloc ?_ _)); exact BK341.out) hb)
     have n2_ := Aside0.mk (blk_below (g := gb342) (o := .cells #[.int .i64 0, .slice none 0 0] 24 (0, 0)) (by (with_reducible repeat (first | refine blk_drewN ?_ _ | refine blk_drew ?_ | refine blk_alloc ?_ _)); exact BK342.out) hb)
     have n3_ := Aside0.mk (below_step (by repeat (first | (with_reducible first | exact HB.out | apply below_alloc | apply pw_below_drewN | apply below_drew1 | refine below_set ?_ GE341.out | refine below_set ?_ GE342.out) | exact HB.out)) hb)
     have n4_ := Aside0.mk (hbox)
     have n5_ := Aside0.mk ((by rw [hg]; exact (below_size (by repeat (first | (with_reducible first | exact HB.out | apply below_alloc | apply pw_below_drewN | apply below_drew1 | refine below_set ?_ GE341.out | refine below_set ?_ GE342.out) | exact HB.out))) : w.heap.size ≤ gb349))
     have n6_ := Aside0.mk ((by rw [hg]; exact (below_size (by repeat (first | (with_reducible first | exact HB.out | apply below_alloc | apply pw_below_drewN | apply below_drew1 | refine below_set ?_ GE341.out | refine below_set ?_ GE342.out) | exact HB.out))) : w.heap.size ≤ gb349))
     have n7_ := Aside0.mk ((by rw [hg]; exact Nat.ne_of_lt (blk_lt (g := gb341) (o := .cells #[.int .i64 a0_0, .slice A0_1 l0_1.length c0_1] 24 (0, 0)) (by (with_reducible repeat (first | refine blk_drewN ?_ _ | refine blk_drew ?_ | refine blk_alloc ?_ _)); exact BK341.out)) : gb341 ≠ gb349))
     have n8_ := Aside0.mk ((by rw [hg]; exact Nat.ne_of_gt (blk_lt (g := gb341) (o := .cells #[.int .i64 a0_0, .slice A0_1 l0_1.length c0_1] 24 (0, 0)) (by (with_reducible repeat (first | refine blk_drewN ?_ _ | refine blk_drew ?_ | refine blk_alloc ?_ _)); exact BK341.out)) : gb349 ≠ gb341))
     have n9_ := Aside0.mk ((by rw [hg]; exact Nat.ne_of_lt (blk_lt (g := gb342) (o := .cells #[.int .i64 0, .slice none 0 0] 24 (0, 0)) (by (with_reducible repeat (first | refine blk_drewN ?_ _ | refine blk_drew ?_ | refine blk_alloc ?_ _)); exact BK342.out)) : gb342 ≠ gb349))
     have n10_ := Aside0.mk ((by rw [hg]; exact Nat.ne_of_gt (blk_lt (g := gb342) (o := .cells #[.int .i64 0, .slice none 0 0] 24 (0, 0)) (by (with_reducible repeat (first | refine blk_drewN ?_ _ | refine blk_drew ?_ | refine blk_alloc ?_ _)); exact BK342.out)) : gb349 ≠ gb342))
     clear HO348
     clear BK341
     clear BK342
     clear HB
     have HO348 := n0_
     have BK341 := n1_
     have BK342 := n2_
     have HB := n3_
     have BK349 := n4_
     have GW349 := n5_
     have GE349 := n6_
     have NB341_349 := n7_
     have NB349_341 := n8_
     have NB342_349 := n9_
     have NB349_342 := n10_
     clear n0_ n1_ n2_ n3_ n4_ n5_ n6_ n7_ n8_ n9_ n10_
     clear hb hbox hg
     refine hK.out _ _ ⟨(blk_cell BK341.out 0).trans rfl, (blk_cell BK341.out 1).trans rfl⟩ (fun hHeld => ?_)
     clear hK K
     refine norm_ (a' := ?_) ?_ ?_
     rotate_left
     ·show Act.put _ (some 7) _ = _
      simp only [Act.put, List.setIfInBounds_toArray, List.set_cons_zero, List.set_cons_succ, i64_w, i32_w]
      rfl
     exact norm_ (by simp only [putAll, Act.put, List.setIfInBounds_toArray, List.set_cons_zero, List.set_cons_succ]) (hCont (v344, .slice Ao11 y346.length co11, gb349) _ ⟨hHeld, (by (with_reducible repeat (first | apply Kd.R_alloc | apply Kd.R_drewN | apply Kd.R_drew)); exact HO348.out), (by (with_reducible repeat (first | refine blk_drewN ?_ _ | refine blk_drew ?_ | refine blk_alloc ?_ _)); exact BK341.out), (by (with_reducible repeat (first | refine blk_drewN ?_ _ | refine blk_drew ?_ | refine blk_alloc ?_ _)); exact BK342.out), (by (with_reducible repeat (first | refine blk_drewN ?_ _ | refine blk_drew ?_ | refine blk_alloc ?_ _)); exact BK349.out), GW349.out, GE349.out, NB341_349.out, NB349_341.out, NB342_349.out, NB349_342.out, (by repeat (first | (with_reducible first | exact HB.out | apply below_alloc | apply pw_below_drewN | apply below_drew1 | refine below_set ?_ GE341.out | refine below_set ?_ GE342.out | refine below_set ?_ GE349.out) | exact HB.out))⟩)
    ·skip
     refine box_step ?hg (N := 7) ?hd (cs := #[.int .i64 0, .slice none 0 0]) (t := 24) ?hr ?_; (case hd => rfl); (case hg => rfl); (case hr => first | (go_simp; done) | (go_simp; rfl))
     intro gb349 hg w10 hbox hb
     have n0_ := Aside0.mk (Kd.R_below (by (with_reducible repeat (first | apply Kd.R_alloc | apply Kd.R_drewN | apply Kd.R_drew)); exact HO345.out) hb)
     have n1_ := Aside0.mk (blk_below (g := gb341) (o := .cells #[.int .i64 a0_0, .slice A0_1 l0_1.length c0_1] 24 (0, 0)) (by (with_reducible repeat (first | refine blk_drewN ?_ _ | refine blk_drew ?_ | refine blk_alloc ?_ _)); exact BK341.out) hb)
     have n2_ := Aside0.mk (blk_below (g := gb342) (o := .cells #[.int .i64 0, .slice none 0 0] 24 (0, 0)) (by (with_reducible repeat (first | refine blk_drewN ?_ _ | refine blk_drew ?_ | refine blk_alloc ?_ _)); exact BK342.out) hb)
     have n3_ := Aside0.mk (below_step (by repeat (first | (with_reducible first | exact HB.out | apply below_alloc | apply pw_below_drewN | apply below_drew1 | refine below_set ?_ GE341.out | refine below_set ?_ GE342.out) | exact HB.out)) hb)
     have n4_ := Aside0.mk (hbox)
     have n5_ := Aside0.mk ((by rw [hg]; exact (below_size (by repeat (first | (with_reducible first | exact HB.out | apply below_alloc | apply pw_below_drewN | apply below_drew1 | refine below_set ?_ GE341.out | refine below_set ?_ GE342.out) | exact HB.out))) : w.heap.size ≤ gb349))
     have n6_ := Aside0.mk ((by rw [hg]; exact (below_size (by repeat (first | (with_reducible first | exact HB.out | apply below_alloc | apply pw_below_drewN | apply below_drew1 | refine below_set ?_ GE341.out | refine below_set ?_ GE342.out) | exact HB.out))) : w.heap.size ≤ gb349))
     have n7_ := Aside0.mk ((by rw [hg]; exact Nat.ne_of_lt (blk_lt (g := gb341) (o := .cells #[.int .i64 a0_0, .slice A0_1 l0_1.length c0_1] 24 (0, 0)) (by (with_reducible repeat (first | refine blk_drewN ?_ _ | refine blk_drew ?_ | refine blk_alloc ?_ _)); exact BK341.out)) : gb341 ≠ gb349))
     have n8_ := Aside0.mk ((by rw [hg]; exact Nat.ne_of_gt (blk_lt (g := gb341) (o := .cells #[.int .i64 a0_0, .slice A0_1 l0_1.length c0_1] 24 (0, 0)) (by (with_reducible repeat (first | refine blk_drewN ?_ _ | refine blk_drew ?_ | refine blk_alloc ?_ _)); exact BK341.out)) : gb349 ≠ gb341))
     have n9_ := Aside0.mk ((by rw [hg]; exact Nat.ne_of_lt (blk_lt (g := gb342) (o := .cells #[.int .i64 0, .slice none 0 0] 24 (0, 0)) (by (with_reducible repeat (first | refine blk_drewN ?_ _ | refine blk_drew ?_ | refine blk_alloc ?_ _)); exact BK342.out)) : gb342 ≠ gb349))
     have n10_ := Aside0.mk ((by rw [hg]; exact Nat.ne_of_gt (blk_lt (g := gb342) (o := .cells #[.int .i64 0, .slice none 0 0] 24 (0, 0)) (by (with_reducible repeat (first | refine blk_drewN ?_ _ | refine blk_drew ?_ | refine blk_alloc ?_ _)); exact BK342.out)) : gb349 ≠ gb342))
     clear HO345
     clear BK341
     clear BK342
     clear HB
     have HO345 := n0_
     have BK341 := n1_
     have BK342 := n2_
     have HB := n3_
     have BK349 := n4_
     have GW349 := n5_
     have GE349 := n6_
     have NB341_349 := n7_
     have NB349_341 := n8_
     have NB342_349 := n9_
     have NB349_342 := n10_
     clear n0_ n1_ n2_ n3_ n4_ n5_ n6_ n7_ n8_ n9_ n10_
     clear hb hbox hg
     refine hK.out _ _ ⟨(blk_cell BK341.out 0).trans rfl, (blk_cell BK341.out 1).trans rfl⟩ (fun hHeld => ?_)
     clear hK K
     refine norm_ (a' := ?_) ?_ ?_
     rotate_left
     ·show Act.put _ (some 7) _ = _
      simp only [Act.put, List.setIfInBounds_toArray, List.set_cons_zero, List.set_cons_succ, i64_w, i32_w]
      rfl
     refine one_ (i := 5) (N := some 14) #[true, true, true, true, true, true, false, true, false] rfl rfl (one_of HT_.out (by kernel_rfl)) (by decide) (fun K hK => ?_)
     refine Kd.R_append_rows_step k36 (w0 := w) w.heap.size (by rfl) (.tmp 11) (.tmp 13) 22 36 (.agg #[(.int .i64 0), (.int .i64 0), (.int .i64 0)]) 24 rfl Try.underlying22 info36 rfl (by decide) (by omega) v344 y343 l0_1 _ _ _ (fun _ => True) (fun _ => False) rfl rfl ?aO ?aR (fun _ _ h => h) (fun _ h => h.elim) ?aF ?aB ?aS ?aL ?_
     (case aR => repeat (first | exact (Kd.C_below HR0_1.out HB.out) | (with_reducible refine Kd.C_alloc ?_ _) | (with_reducible refine Kd.C_drewN ?_ _) | (with_reducible refine Kd.C_drew ?_)))
     (case aB => exact (by repeat (first | (with_reducible first | exact HB.out | apply below_alloc | apply pw_below_drewN | apply below_drew1 | refine below_set ?_ GE341.out | refine below_set ?_ GE342.out | refine below_set ?_ GE349.out) | exact HB.out)))
     (case aF => exact (fun _ _ => trivial))
     (case aO => exact (by (with_reducible repeat (first | apply Kd.R_alloc | apply Kd.R_drewN | apply Kd.R_drew)); exact HO345.out))
     (case aS => exact (below_size (by repeat (first | (with_reducible first | exact HB.out | apply below_alloc | apply pw_below_drewN | apply below_drew1 | refine below_set ?_ GE341.out | refine below_set ?_ GE342.out | refine below_set ?_ GE349.out) | exact HB.out))))
     (case aL => have := LMc4.out; omega)
     intro v347 w11 ho hb hg hat
     rw [← Ny346.out] at ho
     have n0_ := Aside0.mk (blk_grown (g := gb341) (o := .cells #[.int .i64 a0_0, .slice A0_1 l0_1.length c0_1] 24 (0, 0)) (by (with_reducible repeat (first | refine blk_drewN ?_ _ | refine blk_drew ?_ | refine blk_alloc ?_ _)); exact BK341.out) hg (Kd.R_ne HO345.out BK341.out (by decide)))
     have n1_ := Aside0.mk (blk_grown (g := gb342) (o := .cells #[.int .i64 0, .slice none 0 0] 24 (0, 0)) (by (with_reducible repeat (first | refine blk_drewN ?_ _ | refine blk_drew ?_ | refine blk_alloc ?_ _)); exact BK342.out) hg (Kd.R_ne HO345.out BK342.out (by decide)))
     have n2_ := Aside0.mk (blk_grown (g := gb349) (o := .cells #[.int .i64 0, .slice none 0 0] 24 (0, 0)) (by (with_reducible repeat (first | refine blk_drewN ?_ _ | refine blk_drew ?_ | refine blk_alloc ?_ _)); exact BK349.out) hg (Kd.R_ne HO345.out BK349.out (by decide)))
     have n3_ := Aside0.mk (hb)
     have n4_ := Aside0.mk (ho)
     clear BK341
     clear BK342
     clear BK349
     clear HB
     clear HO345
     have BK341 := n0_
     have BK342 := n1_
     have BK349 := n2_
     have HB := n3_
     have HO348 := n4_
     clear n0_ n1_ n2_ n3_ n4_
     clear ho hb hg hat
     obtain ⟨Ao12, co12, eo12⟩ := Kd.R_slice HO348.out
     (first | subst eo12 | (injection eo12 with f1_ f2_ f3_; have f4_ := f1_.symm; have f5_ := f3_.symm; clear f1_ f2_ f3_; subst f4_; subst f5_))
     refine hK.out _ _ ⟨(blk_cell BK341.out 0).trans rfl, (blk_cell BK341.out 1).trans rfl⟩ (fun hHeld => ?_)
     clear hK K
     refine norm_ (a' := ?_) ?_ ?_
     rotate_left
     ·show Act.put _ (some 14) _ = _
      simp only [Act.put, List.setIfInBounds_toArray, List.set_cons_zero, List.set_cons_succ, i64_w, i32_w]
      rfl
     refine pure_ (i := 6) (N := some 15) (v := ?_) (a' := ?_) #[true, true, true, true, true, true, true, true, false] rfl rfl (any_of HT_.out (by kernel_rfl)) (fun _ _ _ h => h) (Or.inl ⟨by rfl, ?_⟩) ?_ ?_
     rotate_left
     ·intro w'
      go_simp
      with_reducible rfl
     rotate_left
     ·simp only [Act.put, List.setIfInBounds_toArray, List.set_cons_zero, List.set_cons_succ, i64_w, i32_w]
      rfl
     exact norm_ (by simp only [putAll, Act.put, List.setIfInBounds_toArray, List.set_cons_zero, List.set_cons_succ]) (hCont (v344, .slice Ao12 y346.length co12, gb349) _ ⟨hHeld, (by (with_reducible repeat (first | apply Kd.R_alloc | apply Kd.R_drewN | apply Kd.R_drew)); exact HO348.out), (by (with_reducible repeat (first | refine blk_drewN ?_ _ | refine blk_drew ?_ | refine blk_alloc ?_ _)); exact BK341.out), (by (with_reducible repeat (first | refine blk_drewN ?_ _ | refine blk_drew ?_ | refine blk_alloc ?_ _)); exact BK342.out), (by (with_reducible repeat (first | refine blk_drewN ?_ _ | refine blk_drew ?_ | refine blk_alloc ?_ _)); exact BK349.out), GW349.out, GE349.out, NB341_349.out, NB349_341.out, NB342_349.out, NB349_342.out, (by repeat (first | (with_reducible first | exact HB.out | apply below_alloc | apply pw_below_drewN | apply below_drew1 | refine below_set ?_ GE341.out | refine below_set ?_ GE342.out | refine below_set ?_ GE349.out) | exact HB.out))⟩)
   ·skip
    refine box_step ?hg (N := 7) ?hd (cs := #[.int .i64 0, .slice none 0 0]) (t := 24) ?hr ?_; (case hd => rfl); (case hg => rfl); (case hr => first | (go_simp; done) | (go_simp; rfl))
    intro gb349 hg w8 hbox hb
    have n0_ := Aside0.mk (blk_below (g := gb341) (o := .cells #[.int .i64 a0_0, .slice A0_1 l0_1.length c0_1] 24 (0, 0)) (by (with_reducible repeat (first | refine blk_drewN ?_ _ | refine blk_drew ?_ | refine blk_alloc ?_ _)); exact BK341.out) hb)
    have n1_ := Aside0.mk (blk_below (g := gb342) (o := .cells #[.int .i64 0, .slice none 0 0] 24 (0, 0)) (by (with_reducible repeat (first | refine blk_drewN ?_ _ | refine blk_drew ?_ | refine blk_alloc ?_ _)); exact BK342.out) hb)
    have n2_ := Aside0.mk (below_step (by repeat (first | (with_reducible first | exact HB.out | apply below_alloc | apply pw_below_drewN | apply below_drew1 | refine below_set ?_ GE341.out | refine below_set ?_ GE342.out) | exact HB.out)) hb)
    have n3_ := Aside0.mk (hbox)
    have n4_ := Aside0.mk ((by rw [hg]; exact (below_size (by repeat (first | (with_reducible first | exact HB.out | apply below_alloc | apply pw_below_drewN | apply below_drew1 | refine below_set ?_ GE341.out | refine below_set ?_ GE342.out) | exact HB.out))) : w.heap.size ≤ gb349))
    have n5_ := Aside0.mk ((by rw [hg]; exact (below_size (by repeat (first | (with_reducible first | exact HB.out | apply below_alloc | apply pw_below_drewN | apply below_drew1 | refine below_set ?_ GE341.out | refine below_set ?_ GE342.out) | exact HB.out))) : w.heap.size ≤ gb349))
    have n6_ := Aside0.mk ((by rw [hg]; exact Nat.ne_of_lt (blk_lt (g := gb341) (o := .cells #[.int .i64 a0_0, .slice A0_1 l0_1.length c0_1] 24 (0, 0)) (by (with_reducible repeat (first | refine blk_drewN ?_ _ | refine blk_drew ?_ | refine blk_alloc ?_ _)); exact BK341.out)) : gb341 ≠ gb349))
    have n7_ := Aside0.mk ((by rw [hg]; exact Nat.ne_of_gt (blk_lt (g := gb341) (o := .cells #[.int .i64 a0_0, .slice A0_1 l0_1.length c0_1] 24 (0, 0)) (by (with_reducible repeat (first | refine blk_drewN ?_ _ | refine blk_drew ?_ | refine blk_alloc ?_ _)); exact BK341.out)) : gb349 ≠ gb341))
    have n8_ := Aside0.mk ((by rw [hg]; exact Nat.ne_of_lt (blk_lt (g := gb342) (o := .cells #[.int .i64 0, .slice none 0 0] 24 (0, 0)) (by (with_reducible repeat (first | refine blk_drewN ?_ _ | refine blk_drew ?_ | refine blk_alloc ?_ _)); exact BK342.out)) : gb342 ≠ gb349))
    have n9_ := Aside0.mk ((by rw [hg]; exact Nat.ne_of_gt (blk_lt (g := gb342) (o := .cells #[.int .i64 0, .slice none 0 0] 24 (0, 0)) (by (with_reducible repeat (first | refine blk_drewN ?_ _ | refine blk_drew ?_ | refine blk_alloc ?_ _)); exact BK342.out)) : gb349 ≠ gb342))
    clear BK341
    clear BK342
    clear HB
    have BK341 := n0_
    have BK342 := n1_
    have HB := n2_
    have BK349 := n3_
    have GW349 := n4_
    have GE349 := n5_
    have NB341_349 := n6_
    have NB349_341 := n7_
    have NB342_349 := n8_
    have NB349_342 := n9_
    clear n0_ n1_ n2_ n3_ n4_ n5_ n6_ n7_ n8_ n9_
    clear hb hbox hg
    refine hK.out _ _ ⟨(blk_cell BK341.out 0).trans rfl, (blk_cell BK341.out 1).trans rfl⟩ (fun hHeld => ?_)
    clear hK K
    refine norm_ (a' := ?_) ?_ ?_
    rotate_left
    ·show Act.put _ (some 7) _ = _
     simp only [Act.put, List.setIfInBounds_toArray, List.set_cons_zero, List.set_cons_succ, i64_w, i32_w]
     rfl
    refine one_ (i := 2) (N := some 11) #[true, true, true, true, true, false, false, true, false] rfl rfl (one_of HT_.out (by kernel_rfl)) (by decide) (fun K hK => ?_)
    refine Kd.R_lit_step k36 _ 36 ?hg (N := 11) ?hd (xs := ([] : List (S36))) (inner := []) (ok := fun _ => True) (okp := fun _ => True) ?hr ?hp (fun _ hk => hk) trivial (Below.refl _ _) (Nat.le_refl _) (by simp) ?_; (case hd => rfl); (case hg => rfl); (case hr => first | (go_simp; done) | (go_simp; rfl)); (case hp => exact (Reps.none _ _))
    intro v344 w9 ho10 hb hg_ hnew_
    clear hg_ hnew_
    (first | rw [← Ny343.out] at ho10 | (simp only [Int.reduceToNat] at ho10; rw [← Ny343.out] at ho10))
    have n0_ := Aside0.mk (Kd.R_lower ho10 (below_size (by repeat (first | (with_reducible first | exact HB.out | apply below_alloc | apply pw_below_drewN | apply below_drew1 | refine below_set ?_ GE341.out | refine below_set ?_ GE342.out | refine below_set ?_ GE349.out) | exact HB.out))))
    have n1_ := Aside0.mk (blk_below (g := gb341) (o := .cells #[.int .i64 a0_0, .slice A0_1 l0_1.length c0_1] 24 (0, 0)) (by (with_reducible repeat (first | refine blk_drewN ?_ _ | refine blk_drew ?_ | refine blk_alloc ?_ _)); exact BK341.out) hb)
    have n2_ := Aside0.mk (blk_below (g := gb342) (o := .cells #[.int .i64 0, .slice none 0 0] 24 (0, 0)) (by (with_reducible repeat (first | refine blk_drewN ?_ _ | refine blk_drew ?_ | refine blk_alloc ?_ _)); exact BK342.out) hb)
    have n3_ := Aside0.mk (blk_below (g := gb349) (o := .cells #[.int .i64 0, .slice none 0 0] 24 (0, 0)) (by (with_reducible repeat (first | refine blk_drewN ?_ _ | refine blk_drew ?_ | refine blk_alloc ?_ _)); exact BK349.out) hb)
    have n4_ := Aside0.mk (below_step (by repeat (first | (with_reducible first | exact HB.out | apply below_alloc | apply pw_below_drewN | apply below_drew1 | refine below_set ?_ GE341.out | refine below_set ?_ GE342.out | refine below_set ?_ GE349.out) | exact HB.out)) hb)
    clear BK341
    clear BK342
    clear BK349
    clear HB
    have HO345 := n0_
    have BK341 := n1_
    have BK342 := n2_
    have BK349 := n3_
    have HB := n4_
    clear n0_ n1_ n2_ n3_ n4_
    clear hb ho10
    refine hK.out _ _ ⟨(blk_cell BK341.out 0).trans rfl, (blk_cell BK341.out 1).trans rfl⟩ (fun hHeld => ?_)
    clear hK K
    refine norm_ (a' := ?_) ?_ ?_
    rotate_left
    ·show Act.put _ (some 11) _ = _
     simp only [Act.put, List.setIfInBounds_toArray, List.set_cons_zero, List.set_cons_succ, i64_w, i32_w]
     rfl
    refine one_ (i := 5) (N := some 14) #[true, true, true, true, true, true, false, true, false] rfl rfl (one_of HT_.out (by kernel_rfl)) (by decide) (fun K hK => ?_)
    refine Kd.R_append_rows_step k36 (w0 := w) w.heap.size (by rfl) (.tmp 11) (.tmp 13) 22 36 (.agg #[(.int .i64 0), (.int .i64 0), (.int .i64 0)]) 24 rfl Try.underlying22 info36 rfl (by decide) (by omega) v344 y343 l0_1 _ _ _ (fun _ => True) (fun _ => False) rfl rfl ?aO ?aR (fun _ _ h => h) (fun _ h => h.elim) ?aF ?aB ?aS ?aL ?_
    (case aR => repeat (first | exact (Kd.C_below HR0_1.out HB.out) | (with_reducible refine Kd.C_alloc ?_ _) | (with_reducible refine Kd.C_drewN ?_ _) | (with_reducible refine Kd.C_drew ?_)))
    (case aB => exact (by repeat (first | (with_reducible first | exact HB.out | apply below_alloc | apply pw_below_drewN | apply below_drew1 | refine below_set ?_ GE341.out | refine below_set ?_ GE342.out | refine below_set ?_ GE349.out) | exact HB.out)))
    (case aF => exact (fun _ _ => trivial))
    (case aO => exact (by (with_reducible repeat (first | apply Kd.R_alloc | apply Kd.R_drewN | apply Kd.R_drew)); exact HO345.out))
    (case aS => exact (below_size (by repeat (first | (with_reducible first | exact HB.out | apply below_alloc | apply pw_below_drewN | apply below_drew1 | refine below_set ?_ GE341.out | refine below_set ?_ GE342.out | refine below_set ?_ GE349.out) | exact HB.out))))
    (case aL => have := LMc4.out; omega)
    intro v347 w11 ho hb hg hat
    rw [← Ny346.out] at ho
    have n0_ := Aside0.mk (blk_grown (g := gb341) (o := .cells #[.int .i64 a0_0, .slice A0_1 l0_1.length c0_1] 24 (0, 0)) (by (with_reducible repeat (first | refine blk_drewN ?_ _ | refine blk_drew ?_ | refine blk_alloc ?_ _)); exact BK341.out) hg (Kd.R_ne HO345.out BK341.out (by decide)))
    have n1_ := Aside0.mk (blk_grown (g := gb342) (o := .cells #[.int .i64 0, .slice none 0 0] 24 (0, 0)) (by (with_reducible repeat (first | refine blk_drewN ?_ _ | refine blk_drew ?_ | refine blk_alloc ?_ _)); exact BK342.out) hg (Kd.R_ne HO345.out BK342.out (by decide)))
    have n2_ := Aside0.mk (blk_grown (g := gb349) (o := .cells #[.int .i64 0, .slice none 0 0] 24 (0, 0)) (by (with_reducible repeat (first | refine blk_drewN ?_ _ | refine blk_drew ?_ | refine blk_alloc ?_ _)); exact BK349.out) hg (Kd.R_ne HO345.out BK349.out (by decide)))
    have n3_ := Aside0.mk (hb)
    have n4_ := Aside0.mk (ho)
    clear BK341
    clear BK342
    clear BK349
    clear HB
    clear HO345
    have BK341 := n0_
    have BK342 := n1_
    have BK349 := n2_
    have HB := n3_
    have HO348 := n4_
    clear n0_ n1_ n2_ n3_ n4_
    clear ho hb hg hat
    obtain ⟨Ao12, co12, eo12⟩ := Kd.R_slice HO348.out
    (first | subst eo12 | (injection eo12 with f1_ f2_ f3_; have f4_ := f1_.symm; have f5_ := f3_.symm; clear f1_ f2_ f3_; subst f4_; subst f5_))
    refine hK.out _ _ ⟨(blk_cell BK341.out 0).trans rfl, (blk_cell BK341.out 1).trans rfl⟩ (fun hHeld => ?_)
    clear hK K
    refine norm_ (a' := ?_) ?_ ?_
    rotate_left
    ·show Act.put _ (some 14) _ = _
     simp only [Act.put, List.setIfInBounds_toArray, List.set_cons_zero, List.set_cons_succ, i64_w, i32_w]
     rfl
    refine pure_ (i := 6) (N := some 15) (v := ?_) (a' := ?_) #[true, true, true, true, true, true, true, true, false] rfl rfl (any_of HT_.out (by kernel_rfl)) (fun _ _ _ h => h) (Or.inl ⟨by rfl, ?_⟩) ?_ ?_
    rotate_left
    ·intro w'
     go_simp
     with_reducible rfl
    rotate_left
    ·simp only [Act.put, List.setIfInBounds_toArray, List.set_cons_zero, List.set_cons_succ, i64_w, i32_w]
     rfl
    exact norm_ (by simp only [putAll, Act.put, List.setIfInBounds_toArray, List.set_cons_zero, List.set_cons_succ]) (hCont (v344, .slice Ao12 y346.length co12, gb349) _ ⟨hHeld, (by (with_reducible repeat (first | apply Kd.R_alloc | apply Kd.R_drewN | apply Kd.R_drew)); exact HO348.out), (by (with_reducible repeat (first | refine blk_drewN ?_ _ | refine blk_drew ?_ | refine blk_alloc ?_ _)); exact BK341.out), (by (with_reducible repeat (first | refine blk_drewN ?_ _ | refine blk_drew ?_ | refine blk_alloc ?_ _)); exact BK342.out), (by (with_reducible repeat (first | refine blk_drewN ?_ _ | refine blk_drew ?_ | refine blk_alloc ?_ _)); exact BK349.out), GW349.out, GE349.out, NB341_349.out, NB349_341.out, NB342_349.out, NB349_342.out, (by repeat (first | (with_reducible first | exact HB.out | apply below_alloc | apply pw_below_drewN | apply below_drew1 | refine below_set ?_ GE341.out | refine below_set ?_ GE342.out | refine below_set ?_ GE349.out) | exact HB.out))⟩)
  rintro ⟨v344, v347, gb349⟩ w13 ⟨hS_, h0_, h1_, h2_, h3_, h4_, h5_, h6_, h7_, h8_, h9_, h10_⟩
  have n0_ : Aside0 (Kd.R k36 36 w13 w.heap.size (fun _ => True) v347 y346) := ⟨h0_⟩
  have n1_ : Aside0 (w13.heap[gb341]? = some (.cells #[.int .i64 a0_0, .slice A0_1 l0_1.length c0_1] 24 (0, 0))) := ⟨h1_⟩
  have n2_ : Aside0 (w13.heap[gb342]? = some (.cells #[.int .i64 0, .slice none 0 0] 24 (0, 0))) := ⟨h2_⟩
  have n3_ : Aside0 (w13.heap[gb349]? = some (.cells #[.int .i64 0, .slice none 0 0] 24 (0, 0))) := ⟨h3_⟩
  have n4_ : Aside0 (w.heap.size ≤ gb349) := ⟨h4_⟩
  have n5_ : Aside0 (w.heap.size ≤ gb349) := ⟨h5_⟩
  have n6_ : Aside0 (gb341 ≠ gb349) := ⟨h6_⟩
  have n7_ : Aside0 (gb349 ≠ gb341) := ⟨h7_⟩
  have n8_ : Aside0 (gb342 ≠ gb349) := ⟨h8_⟩
  have n9_ : Aside0 (gb349 ≠ gb342) := ⟨h9_⟩
  have n10_ : Aside0 (Below w.heap.size w w13) := ⟨h10_⟩
  clear BK341
  clear BK342
  clear HB
  clear h0_ h1_ h2_ h3_ h4_ h5_ h6_ h7_ h8_ h9_ h10_
  have HO348 := n0_
  have BK341 := n1_
  have BK342 := n2_
  have BK349 := n3_
  have GW349 := n4_
  have GE349 := n5_
  have NB341_349 := n6_
  have NB349_341 := n7_
  have NB342_349 := n8_
  have NB349_342 := n9_
  have HB := n10_
  clear n0_ n1_ n2_ n3_ n4_ n5_ n6_ n7_ n8_ n9_ n10_
  have hHeld : w13.cell? ⟨gb341, 0, none⟩ = some (.int .i64 a0_0) ∧ w13.cell? ⟨gb341, 1, none⟩ = some (.slice A0_1 l0_1.length c0_1) := hS_
  obtain ⟨Ao14, co14, eo14⟩ := Kd.R_slice HO348.out
  (first | subst eo14 | (injection eo14 with f1_ f2_ f3_; have f4_ := f1_.symm; have f5_ := f3_.symm; clear f1_ f2_ f3_; subst f4_; subst f5_))
  refine norm_ (a' := ?_) ?_ ?_
  rotate_left
  ·simp only [putAll, Act.put, List.setIfInBounds_toArray, List.set_cons_zero, List.set_cons_succ]
   rfl
  refine one_ (i := 8) (N := none) #[true, true, true, true, true, true, true, true, true] rfl rfl (one_of HT_.out (by kernel_rfl)) (by decide) (fun K hK => ?_)
  have hs15 : w13.cell? ⟨gb349, 0, none⟩ = some (.int .i64 0) := (blk_cell BK349.out 0).trans rfl
  have hfs15 := blk_frozen BK349.out 0
  have hns15_0 := NB341_349.out
  have hns15_1 := NB342_349.out
  have hms15_0 := NB349_341.out
  have hms15_1 := NB349_342.out
  have hs16 : w13.cell? ⟨gb349, 1, none⟩ = some (.slice none 0 0) := (blk_cell BK349.out 1).trans rfl
  have hfs16 := blk_frozen BK349.out 1
  have hns16_0 := NB341_349.out
  have hns16_1 := NB342_349.out
  have hms16_0 := NB349_341.out
  have hms16_1 := NB349_342.out
  refine skip_ (w1 := ?_) (by rfl) rfl ?_ ?_
  rotate_left
  ·go_simp
   rfl
  refine hK.out _ _ ⟨((cell_far (p := ⟨gb349, _, none⟩) NB341_349.out _).trans (((cell_far (p := ⟨gb349, _, none⟩) NB341_349.out _).trans (hHeld.1)))), ((cell_far (p := ⟨gb349, _, none⟩) NB341_349.out _).trans (((cell_far (p := ⟨gb349, _, none⟩) NB341_349.out _).trans (hHeld.2))))⟩ (fun hHeld => ?_)
  clear hK K
  refine done_ (done_of HT_.out (by kernel_rfl)) ?_
  try go_wp2
  go_loopg [8] k (fun kq v8 w' => ∃ (x8_1 : Int) (x350001_1 : List (S36)) (u350001 : Value), v8 = .int .i64 x8_1 ∧ Aside0 (codewrightref51_Given.l0 kq l1 a2 x8_1 a0_0 x350001_1 = some (r1, r2)) ∧ Aside0 (kq ≤ k) ∧ Aside0 (Kd.R k36 36 w' w.heap.size (fun _ => True) u350001 x350001_1) ∧ Aside0 (w'.heap[gb341]? = some (.cells #[.int .i64 a0_0, (.slice A0_1 l0_1.length c0_1)] 24 (0, 0))) ∧ Aside0 (w'.heap[gb342]? = some (.cells #[.int .i64 0, (.slice none 0 0)] 24 (0, 0))) ∧ Aside0 (w'.heap[gb349]? = some (.cells #[.int .i64 a0_0, u350001] 24 (0, 0))) ∧ Aside0 (Below w.heap.size w w'))
  case atStart => exact ⟨(0), (y346), (.slice Ao14 y346.length co14), (by first | rfl | (simp; done) | (simp [*]; done)), H', ⟨Nat.le_refl _⟩, ⟨by (with_reducible repeat (first | apply Kd.R_alloc | apply Kd.R_drewN | apply Kd.R_drew)); exact Kd.R_mono (Kd.R_far (p := ⟨gb349, 1, none⟩) (Kd.R_far (p := ⟨gb349, 0, none⟩) (Kd.R_types HO348.out BK349.out (by decide)) (fun _ hk => hk.2) (.int .i64 a0_0)) (fun _ hk => hk.2) (.slice Ao14 y346.length co14)) (fun _ hk => trivial)⟩, ⟨by (with_reducible repeat (first | refine blk_drewN ?_ _ | refine blk_drew ?_ | refine blk_alloc ?_ _)); refine blk_far ?_ NB341_349.out _; (with_reducible repeat (first | refine blk_drewN ?_ _ | refine blk_drew ?_ | refine blk_alloc ?_ _)); refine blk_far ?_ NB341_349.out _; (with_reducible repeat (first | refine blk_drewN ?_ _ | refine blk_drew ?_ | refine blk_alloc ?_ _)); exact BK341.out⟩, ⟨by (with_reducible repeat (first | refine blk_drewN ?_ _ | refine blk_drew ?_ | refine blk_alloc ?_ _)); refine blk_far ?_ NB342_349.out _; (with_reducible repeat (first | refine blk_drewN ?_ _ | refine blk_drew ?_ | refine blk_alloc ?_ _)); refine blk_far ?_ NB342_349.out _; (with_reducible repeat (first | refine blk_drewN ?_ _ | refine blk_drew ?_ | refine blk_alloc ?_ _)); exact BK342.out⟩, ⟨by (with_reducible repeat (first | refine blk_drewN ?_ _ | refine blk_drew ?_ | refine blk_alloc ?_ _)); refine blk_put (cs := #[.int .i64 a0_0, .slice none 0 0]) ?_ 1 _ rfl; (with_reducible repeat (first | refine blk_drewN ?_ _ | refine blk_drew ?_ | refine blk_alloc ?_ _)); refine blk_put (cs := #[.int .i64 0, .slice none 0 0]) ?_ 0 _ rfl; (with_reducible repeat (first | refine blk_drewN ?_ _ | refine blk_drew ?_ | refine blk_alloc ?_ _)); exact BK349.out⟩, ⟨by repeat (first | (with_reducible first | exact HB.out | apply below_alloc | apply pw_below_drewN | apply below_drew1 | refine below_set ?_ GE341.out | refine below_set ?_ GE342.out | refine below_set ?_ GE349.out) | exact HB.out)⟩⟩
  case round =>
   clear H'
   try clear c1
   try clear c2
   try clear p2
   try clear c4
   obtain ⟨x8_1, x350001_1, u350001, rfl, HA, HK1, HO_350001, BK341, BK342, BK349, HB⟩ := hrel
   cases gk with
   | zero => exact absurd HA.out (by simp [codewrightref51_Given.l0])
   | succ k1 =>
    have H := HA.out
    clear HA
    simp only [codewrightref51_Given.l0] at H
    by_cases c17 : x8_1 < (l1.length : Int)
    ·rw [if_pos c17] at H
     have c17b0 : decide (x8_1 < (l1.length : Int)) = true := decide_eq_true c17
     clear c17
     by_cases c18 : 0 ≤ x8_1
     ·rw [if_pos c18] at H
      have c18b0 : decide (0 ≤ x8_1) = true := decide_eq_true c18
      clear c18
      by_cases c19 : 0 ≤ (rd l1 x8_1)
      ·rw [if_pos c19] at H
       have c19b0 : decide (0 ≤ (rd l1 x8_1)) = true := decide_eq_true c19
       clear c19
       by_cases c20 : (rd l1 x8_1) < (x350001_1.length : Int)
       ·rw [if_pos c20] at H
        have c20b0 : decide ((rd l1 x8_1) < (x350001_1.length : Int)) = true := decide_eq_true c20
        clear c20
        obtain ⟨y351, hy351⟩ : ∃ y_ : List (S36), y_ = (x350001_1.set ((rd l1 x8_1) : Int).toNat (⟨(rd_T36 x350001_1 (rd l1 x8_1)).f0, (rd_T36 x350001_1 (rd l1 x8_1)).f1, a2⟩ : S36)) := ⟨_, rfl⟩
        replace H : (codewrightref51_Given.l0 k1 l1 a2 (wrap64 (x8_1 + 1)) a0_0 y351) = some (r1, r2) := by first | (rw [hy351]; with_reducible exact H) | (have H2_ := (Option.bind_some _ _).symm.trans H; rw [hy351]; with_reducible exact H2_) | (have H2_ := (Option.bind_some _ _).symm.trans H; with_reducible exact H2_) | with_reducible exact H | (rw [hy351]; exact H) | exact H
        have Ny351 := Aside0.mk hy351
        clear hy351
        have H' := Aside0.mk H
        clear H
        try go_wp2
        have n0_ := Aside0.mk (Kd.R_drew HO_350001.out)
        have n1_ := Aside0.mk (blk_drew BK341.out)
        have n2_ := Aside0.mk (blk_drew BK342.out)
        have n3_ := Aside0.mk (blk_drew BK349.out)
        have n4_ := Aside0.mk (below_drew1 HB.out)
        clear HO_350001
        clear BK341
        clear BK342
        clear BK349
        clear HB
        have HO_350001 := n0_
        have BK341 := n1_
        have BK342 := n2_
        have BK349 := n3_
        have HB := n4_
        clear n0_ n1_ n2_ n3_ n4_
        have p350 : 0 ≤ (x8_1 : Int) := of_decide_eq_true (by first | (with_reducible assumption) | assumption)
        have q350 : x8_1 < (l1.length : Int) := of_decide_eq_true (by first | (with_reducible assumption) | assumption)
        obtain ⟨ad350, e350, hx350_0⟩ := Kd.at_int HR1.out x8_1 p350 q350
        have hw350_0 := hx350_0
        cases e350
        replace hx350_0 := (HB.out.cell (World.block_lt_of_cell? w _ hx350_0)).trans hx350_0
        replace p350 := eq_true p350
        replace q350 := eq_true q350
        have p21 : 0 ≤ ((rd l1 x8_1) : Int) := of_decide_eq_true (by first | (with_reducible assumption) | assumption)
        have q21 : ((rd l1 x8_1) : Int) < ((x350001_1.length : Int) : Int) := of_decide_eq_true (by first | (with_reducible assumption) | assumption)
        obtain ⟨go21, co21, eo21, gb21, gl21, cl21, HG21⟩ := Kd.R_form HO_350001.out (by omega)
        (first | cases eo21 | (injection eo21 with ea_ en_ ec_; (first | subst ea_ | (injection ea_ with ea_; subst ea_)); subst ec_; clear en_))
        have GB21 := Aside0.mk gb21
        have GG21 := Aside0.mk HG21
        clear gb21 gl21 HG21
        obtain ⟨ce21, hcl21, hM21, hcc21, hfr21⟩ := Kd.R_elem HO_350001.out z36 ((rd l1 x8_1) : Int) p21 q21
        obtain rfl := k36_openM hM21
        have hx21_0 : World.cell? _ ⟨go21, ((rd l1 x8_1) : Int).toNat * 3, none⟩ = some (.int .i64 ((rd_T36 x350001_1 (rd l1 x8_1)).f0)) := hcc21 0 _ rfl
        have hx21_1 : World.cell? _ ⟨go21, ((rd l1 x8_1) : Int).toNat * 3 + 1, none⟩ = some (.int .i64 ((rd_T36 x350001_1 (rd l1 x8_1)).f1)) := hcc21 1 _ rfl
        have hx21_2 : World.cell? _ ⟨go21, ((rd l1 x8_1) : Int).toNat * 3 + 2, none⟩ = some (.int .i64 ((rd_T36 x350001_1 (rd l1 x8_1)).f2)) := hcc21 2 _ rfl
        have hf21_0 : World.frozen? _ ⟨go21, ((rd l1 x8_1) : Int).toNat * 3, none⟩ = false := hfr21 0
        have hf21_1 : World.frozen? _ ⟨go21, ((rd l1 x8_1) : Int).toNat * 3 + 1, none⟩ = false := hfr21 1
        have hf21_2 : World.frozen? _ ⟨go21, ((rd l1 x8_1) : Int).toNat * 3 + 2, none⟩ = false := hfr21 2
        clear hcl21 hcc21 hfr21 hM21
        replace p21 := eq_true p21
        replace q21 := eq_true q21
        obtain ⟨ce23, hcl23, hM23, hcc23, hfr23⟩ := Kd.R_elem HO_350001.out z36 ((rd l1 x8_1) : Int) (of_decide_eq_true (by first | (with_reducible assumption) | assumption)) (by have h_ : ((rd l1 x8_1) : Int) < ((x350001_1.length : Int) : Int) := of_decide_eq_true (by first | (with_reducible assumption) | assumption); first | exact h_ | (have e_ := (Kd.R_reads' HO_350001.out).1; omega) | simpa using h_)
        obtain rfl := k36_openM hM23
        have HP23 := (Kd.R_seg HO_350001.out ((rd l1 x8_1) : Int) (of_decide_eq_true (by first | (with_reducible assumption) | assumption)) (by have h_ : ((rd l1 x8_1) : Int) < ((x350001_1.length : Int) : Int) := of_decide_eq_true (by first | (with_reducible assumption) | assumption); first | exact h_ | (have e_ := (Kd.R_reads' HO_350001.out).1; omega) | simpa using h_) (seg := [.int .i64 a2]) (j := 2) hcl23 hcc23 (show 3 ≤ 3 from by decide) (x' := (⟨(rd_T36 x350001_1 (rd l1 x8_1)).f0, (rd_T36 x350001_1 (rd l1 x8_1)).f1, a2⟩ : S36)) (k36_mkM _ _ _ (⟨(rd_T36 x350001_1 (rd l1 x8_1)).f0, (rd_T36 x350001_1 (rd l1 x8_1)).f1, a2⟩ : S36) ) (fun _ hk => hk)).1
        rw [← Ny351.out] at HP23
        have HQ23 := Aside0.mk HP23
        clear hcl23 hcc23 hfr23 hM23 HP23
        refine start_ (n := 10) (S := fun w' => w'.cell? ⟨gb349, 0, none⟩ = some (.int .i64 a0_0) ∧ w'.cell? ⟨gb349, 1, none⟩ = some (.slice (some ⟨go21, 0, none⟩) x350001_1.length co21) ∧ w'.cell? (ad350.add (x8_1).toNat) = some (.int .i64 (rd l1 x8_1))) (ds := [9]) #[false, false, false, false, false, false, false, false, false, false] (by kernel_rfl) rfl rfl ⟨(blk_cell BK349.out 0).trans rfl, (blk_cell BK349.out 1).trans rfl, ((HB.out.cell (World.block_lt_of_cell? w _ hw350_0)).trans hw350_0)⟩ (fun hHeld => ?_); refine with_tabW codewrightref51_Given.tab5 codewrightref51_Given.bits5 (fun HT_ HW_ => ?_)
        generalize wr.drew = w22 at HO_350001 BK341 BK342 BK349 HB GG21 HQ23 hf21_0 hf21_1 hf21_2 hx21_0 hx21_1 hx21_2 hx350_0 hHeld ⊢
        refine pure_ (i := 0) (N := some 22) (v := ?_) (a' := ?_) #[true, false, false, false, false, false, false, false, false, false] rfl rfl (any_of HT_.out (by kernel_rfl)) (fun _ _ _ h => h) (Or.inl ⟨by rfl, ?_⟩) ?_ ?_
        rotate_left
        ·intro w'
         go_simp
         with_reducible rfl
        rotate_left
        ·simp only [Act.put, List.setIfInBounds_toArray, List.set_cons_zero, List.set_cons_succ, i64_w, i32_w]
         rfl
        refine pure_ (i := 2) (N := some 24) (v := ?_) (a' := ?_) #[true, false, true, false, false, false, false, false, false, false] rfl rfl (any_of HT_.out (by kernel_rfl)) (fun _ _ _ h => h) (Or.inl ⟨by rfl, ?_⟩) ?_ ?_
        rotate_left
        ·intro w'
         go_simp
         with_reducible rfl
        rotate_left
        ·simp only [Act.put, List.setIfInBounds_toArray, List.set_cons_zero, List.set_cons_succ, i64_w, i32_w]
         rfl
        refine pure_ (i := 3) (N := some 25) (v := ?_) (a' := ?_) #[true, false, true, true, false, false, false, false, false, false] rfl rfl (any_of HT_.out (by kernel_rfl)) (fun _ _ _ h => h) (Or.inl ⟨by rfl, ?_⟩) ?_ ?_
        rotate_left
        ·intro w'
         go_simp
         with_reducible rfl
        rotate_left
        ·simp only [Act.put, List.setIfInBounds_toArray, List.set_cons_zero, List.set_cons_succ, i64_w, i32_w]
         rfl
        refine pure_ (i := 4) (N := some 26) (v := ?_) (a' := ?_) #[true, false, true, true, true, false, false, false, false, false] rfl rfl (any_of HT_.out (by kernel_rfl)) (fun _ _ _ h => h) (Or.inl ⟨by rfl, ?_⟩) ?_ ?_
        rotate_left
        ·intro w'
         go_simp
         with_reducible rfl
        rotate_left
        ·simp only [Act.put, List.setIfInBounds_toArray, List.set_cons_zero, List.set_cons_succ, i64_w, i32_w]
         rfl
        refine pure_ (i := 6) (N := some 28) (v := ?_) (a' := ?_) #[true, false, true, true, true, false, true, false, false, false] rfl rfl (any_of HT_.out (by kernel_rfl)) (fun _ _ _ h => h) (Or.inl ⟨by rfl, ?_⟩) ?_ ?_
        rotate_left
        ·intro w'
         go_simp
         with_reducible rfl
        rotate_left
        ·simp only [Act.put, List.setIfInBounds_toArray, List.set_cons_zero, List.set_cons_succ, i64_w, i32_w]
         rfl
        refine take_ (i := 1) (N := some 23) (v := ?_) (a' := ?_) #[true, true, true, true, true, false, true, false, false, false] rfl rfl (take_ofW HT_.out HW_.out (by kernel_rfl)) (fun _ _ _ h => h) (Or.inl ⟨by rfl, ?_⟩) hHeld ?_ ?_
        rotate_left
        ·rintro w' ⟨s0, s1, s2⟩
         go_simp
         with_reducible rfl
        rotate_left
        ·simp only [Act.put, List.setIfInBounds_toArray, List.set_cons_zero, List.set_cons_succ, i64_w, i32_w]
         rfl
        refine take_ (i := 5) (N := some 27) (v := ?_) (a' := ?_) #[true, true, true, true, true, true, true, false, false, false] rfl rfl (take_ofW HT_.out HW_.out (by kernel_rfl)) (fun _ _ _ h => h) (Or.inl ⟨by rfl, ?_⟩) hHeld ?_ ?_
        rotate_left
        ·rintro w' ⟨s0, s1, s2⟩
         go_simp
         with_reducible rfl
        rotate_left
        ·simp only [Act.put, List.setIfInBounds_toArray, List.set_cons_zero, List.set_cons_succ, i64_w, i32_w]
         rfl
        refine pure_ (i := 7) (N := some 29) (v := ?_) (a' := ?_) #[true, true, true, true, true, true, true, true, false, false] rfl rfl (any_of HT_.out (by kernel_rfl)) (fun _ _ _ h => h) (Or.inl ⟨by rfl, ?_⟩) ?_ ?_
        rotate_left
        ·intro w'
         go_simp
         with_reducible rfl
        rotate_left
        ·simp only [Act.put, List.setIfInBounds_toArray, List.set_cons_zero, List.set_cons_succ, i64_w, i32_w]
         rfl
        refine pure_ (i := 8) (N := some 30) (v := ?_) (a' := ?_) #[true, true, true, true, true, true, true, true, true, false] rfl rfl (any_of HT_.out (by kernel_rfl)) (fun _ _ _ h => h) (Or.inl ⟨by rfl, ?_⟩) ?_ ?_
        rotate_left
        ·intro w'
         go_simp
         with_reducible rfl
        rotate_left
        ·simp only [Act.put, List.setIfInBounds_toArray, List.set_cons_zero, List.set_cons_succ, i64_w, i32_w]
         rfl
        refine last_ (i := 9) (N := none) #[true, true, true, true, true, true, true, true, true, true] rfl rfl (one_of HT_.out (by kernel_rfl)) (by decide) (fun K hK => ?_)
        refine skip_ (w1 := ?_) (by rfl) rfl ?_ ?_
        rotate_left
        ·go_simp
         rfl
        refine hK.out _ _ ?_
        clear hK K
        refine done_ (done_of HT_.out (by kernel_rfl)) ?_
        try go_wp2
        go_roundg k1
        case measure => have := HK1.out; omega
        case rel => exact ⟨(wrap64 (x8_1 + 1)), (y351), (.slice (some ⟨go21, 0, none⟩) x350001_1.length co21), (by first | rfl | (simp; done) | (simp [*]; done)), H', ⟨by have := HK1.out; omega⟩, ⟨by (with_reducible repeat (first | apply Kd.R_alloc | apply Kd.R_drewN | apply Kd.R_drew)); exact HQ23.out⟩, ⟨by (with_reducible repeat (first | refine blk_drewN ?_ _ | refine blk_drew ?_ | refine blk_alloc ?_ _)); refine blk_far ?_ (by have h_ := Kd.R_ne HO_350001.out BK341.out (by decide); intro e_; exact h_ (by rw [e_]; rfl)) _; (with_reducible repeat (first | refine blk_drewN ?_ _ | refine blk_drew ?_ | refine blk_alloc ?_ _)); exact BK341.out⟩, ⟨by (with_reducible repeat (first | refine blk_drewN ?_ _ | refine blk_drew ?_ | refine blk_alloc ?_ _)); refine blk_far ?_ (by have h_ := Kd.R_ne HO_350001.out BK342.out (by decide); intro e_; exact h_ (by rw [e_]; rfl)) _; (with_reducible repeat (first | refine blk_drewN ?_ _ | refine blk_drew ?_ | refine blk_alloc ?_ _)); exact BK342.out⟩, ⟨by (with_reducible repeat (first | refine blk_drewN ?_ _ | refine blk_drew ?_ | refine blk_alloc ?_ _)); refine blk_far ?_ (by have h_ := Kd.R_ne HO_350001.out BK349.out (by decide); intro e_; exact h_ (by rw [e_]; rfl)) _; (with_reducible repeat (first | refine blk_drewN ?_ _ | refine blk_drew ?_ | refine blk_alloc ?_ _)); exact BK349.out⟩, ⟨by repeat (first | (with_reducible first | exact HB.out | apply below_alloc | apply pw_below_drewN | apply below_drew1 | refine below_set ?_ GB21.out | refine below_set ?_ GE341.out | refine below_set ?_ GE342.out | refine below_set ?_ GE349.out) | exact HB.out)⟩⟩
       ·rw [if_neg c20] at H
        exact absurd H (by simp)
      ·rw [if_neg c19] at H
       exact absurd H (by simp)
     ·rw [if_neg c18] at H
      exact absurd H (by simp)
    ·rw [if_neg c17] at H
     have c17b0 : decide (x8_1 < (l1.length : Int)) = false := decide_eq_false c17
     clear c17
     simp only [Option.some.injEq, Prod.mk.injEq] at H
     obtain ⟨rfl, rfl⟩ := H
     have hnb24 := NB349_341.out
     have hnc24 := NB341_349.out
     have hnb25 := NB349_342.out
     have hnc25 := NB342_349.out
     have hcz26_0 : wr.cell? ⟨gb349, 0, none⟩ = some (.int .i64 a0_0) := (blk_cell BK349.out 0).trans rfl
     have hcz26_1 : wr.cell? ⟨gb349, 1, none⟩ = some (u350001) := (blk_cell BK349.out 1).trans rfl
     have hfz26_0 := blk_frozen BK349.out 0
     have hfz26_1 := blk_frozen BK349.out 1
     have hnb27 := NB342_341.out
     have hnc27 := NB341_342.out
     have hcz28_0 : wr.cell? ⟨gb342, 0, none⟩ = some (.int .i64 0) := (blk_cell BK342.out 0).trans rfl
     have hcz28_1 : wr.cell? ⟨gb342, 1, none⟩ = some (.slice none 0 0) := (blk_cell BK342.out 1).trans rfl
     have hfz28_0 := blk_frozen BK342.out 0
     have hfz28_1 := blk_frozen BK342.out 1
     obtain ⟨Ao29, co29, eo29⟩ := Kd.R_slice HO_350001.out
     subst eo29
     go_wp2
     refine bodyPost_ret (results_cell_row rfl _ _ gb342 24 #[.int .i64 a0_0, .slice Ao29 x350001_1.length co29] (0, 0) _ rfl (by (with_reducible repeat (first | refine blk_drewN ?_ _ | refine blk_drew ?_ | refine blk_alloc ?_ _)); refine blk_put (cs := #[.int .i64 a0_0, .slice none 0 0]) ?_ 1 _ rfl; (with_reducible repeat (first | refine blk_drewN ?_ _ | refine blk_drew ?_ | refine blk_alloc ?_ _)); refine blk_put (cs := #[.int .i64 0, .slice none 0 0]) ?_ 0 _ rfl; (with_reducible repeat (first | refine blk_drewN ?_ _ | refine blk_drew ?_ | refine blk_alloc ?_ _)); exact BK342.out) Try.underlying24 rfl (by kernel_rfl)) rfl ?_
     exact ⟨_, by first | rfl | (simp [errW_none, errW_some] <;> rfl) | (simp [*, errW_none, errW_some] <;> rfl), by (with_reducible repeat (first | apply Kd.R_alloc | apply Kd.R_drewN | apply Kd.R_drew)); exact Kd.R_mono (Kd.R_far (p := ⟨gb342, 1, none⟩) (Kd.R_far (p := ⟨gb342, 0, none⟩) (Kd.R_types HO_350001.out BK342.out (by decide)) (fun _ hk => hk.2) (.int .i64 a0_0)) (fun _ hk => hk.2) (.slice Ao29 x350001_1.length co29)) (fun _ hk => trivial), by repeat (first | (with_reducible first | exact HB.out | apply below_alloc | apply pw_below_drewN | apply below_drew1 | refine below_set ?_ GE341.out | refine below_set ?_ GE342.out | refine below_set ?_ GE349.out) | exact HB.out)⟩
 ·rw [if_neg c4] at H
  exact absurd H (by simp)

end Go.Proofs.Ytidomjhihfoabaa.PF
