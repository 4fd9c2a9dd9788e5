-- printed by a program out of Lean's own print of the program (the kit's print.py, one namespace for several laws)
import Derived.Test.YtidomjhihfoabaaPFx0
import Derived.Test.YtidomjhihfoabaaPFx16
import Derived.Test.YtidomjhihfoabaaPFx18
import Derived.Test.YtidomjhihfoabaaPFx19
import Derived.Test.YtidomjhihfoabaaPFx21
import Derived.Test.YtidomjhihfoabaaPFx22
import Derived.Test.YtidomjhihfoabaaPFx23
namespace Go.Proofs.Ytidomjhihfoabaa.PF
open Go.RowKit Go.Proofs.YtidomjhihfoabaaW.PrintWords Go.Proofs.YtidomjhihfoabaaW.PrintLast Go.Proofs.YtidomjhihfoabaaW.PrintMore
attribute [local go_sem] max2_int min2_int max_two min_two max_three min_three max_four min_four   -- for this text's walks alone
set_option linter.unusedVariables false
set_option linter.unusedSimpArgs false

/-! ### codewrightlaw51_FlowDuality: function 6 -/
def codewrightlaw51_FlowDuality.j0 : Nat → Bool → Int → List (S36) → Int → Int → Int → List Int → List Bool → List Int → List Bool → Option (Bool)
  | 0, _, _, _, _, _, _, _, _, _, _ => none
  | k + 1, x42, x204000, x204001, x204002, x204003, x204004, x204005, x204006, x204007, x204008 => if x42 = true then (some true) else ((flow_Value.f k x204000 x204001 x204007 x204002).bind fun bt208 => ((flow_Value.f k x204000 x204001 x204007 x204003).bind fun bt210 => ((flow_Cut.f k x204000 x204001 x204008).bind fun bt212 => (if bt208.2 = 0 then (if bt210.2 = 0 then (if bt212.2 = 0 then (if bt208.1 ≤ bt212.1 then (some (bt208.1 == (wrap64 (-bt210.1)))) else (some false)) else (some false)) else (some false)) else (some false)))))
def codewrightlaw51_FlowDuality.f (k : Nat) (a0_0 : Int) (l0_1 : List (S36)) (a0_2 : Int) (a0_3 : Int) (a0_4 : Int) (l0_5 : List Int) (l0_6 : List Bool) (l0_7 : List Int) (l0_8 : List Bool) : Option (Bool) := (codewrightlaw51_alive.f k).bind fun t204 => (if t204 = true then ((codewrightref51_Ends.f k a0_0 l0_1 a0_2 a0_3).bind fun t205 => (if t205 = 0 then ((codewrightref51_IsFlow.f k a0_0 l0_1 a0_2 a0_3 l0_7).bind fun t206 => (if t206 = true then ((codewrightref51_IsCut.f a0_0 l0_1 a0_2 a0_3 l0_8).bind fun t207 => (codewrightlaw51_FlowDuality.j0 k (!t207) a0_0 l0_1 a0_2 a0_3 a0_4 l0_5 l0_6 l0_7 l0_8)) else (codewrightlaw51_FlowDuality.j0 k true a0_0 l0_1 a0_2 a0_3 a0_4 l0_5 l0_6 l0_7 l0_8))) else (codewrightlaw51_FlowDuality.j0 k true a0_0 l0_1 a0_2 a0_3 a0_4 l0_5 l0_6 l0_7 l0_8))) else (some false))
theorem codewrightlaw51_FlowDuality.mono_l : ∀ k, (∀ y0 y1 y2 y3 y4 y5 y6 y7 y8 y9, LeO (codewrightlaw51_FlowDuality.j0 k y0 y1 y2 y3 y4 y5 y6 y7 y8 y9) (codewrightlaw51_FlowDuality.j0 (k + 1) y0 y1 y2 y3 y4 y5 y6 y7 y8 y9))
  | 0 => fun _ _ _ _ _ _ _ _ _ _ r h => by simp [codewrightlaw51_FlowDuality.j0] at h
  | k + 1 => by
    have ih0 := codewrightlaw51_FlowDuality.mono_l k
    · intro y0 y1 y2 y3 y4 y5 y6 y7 y8 y9
      unfold codewrightlaw51_FlowDuality.j0
      repeat' first
      | (with_reducible exact ih0 _ _ _ _ _ _ _ _ _ _)
      | (with_reducible exact codewrightlaw51_alive.mono _)
      | (with_reducible exact codewrightref51_Ends.mono _ _ _ _ _)
      | (with_reducible exact codewrightref51_IsFlow.mono _ _ _ _ _ _)
      | (with_reducible exact flow_Cut.mono _ _ _ _)
      | (with_reducible exact flow_Value.mono _ _ _ _ _)
      | (with_reducible exact LeO.refl _)
      | (with_reducible exact LeO.none _)
      | (with_reducible refine LeO.ite ?_ ?_)
      | (with_reducible refine LeO.bind ?_ (fun _ => ?_))
      | exact ih0 _ _ _ _ _ _ _ _ _ _
      | exact codewrightlaw51_alive.mono _
      | exact codewrightref51_Ends.mono _ _ _ _ _
      | exact codewrightref51_IsFlow.mono _ _ _ _ _ _
      | exact flow_Cut.mono _ _ _ _
      | exact flow_Value.mono _ _ _ _ _
      | exact LeO.none _
      | refine LeO.ite ?_ ?_
      | refine LeO.bind ?_ (fun _ => ?_)
theorem codewrightlaw51_FlowDuality.mono : ∀ a0 a1 a2 a3 a4 a5 a6 a7 a8 k, LeO (codewrightlaw51_FlowDuality.f k a0 a1 a2 a3 a4 a5 a6 a7 a8) (codewrightlaw51_FlowDuality.f (k + 1) a0 a1 a2 a3 a4 a5 a6 a7 a8) := by
  intro a0 a1 a2 a3 a4 a5 a6 a7 a8 k
  have ih0 := codewrightlaw51_FlowDuality.mono_l k
  unfold codewrightlaw51_FlowDuality.f
  repeat' first
      | (with_reducible exact ih0 _ _ _ _ _ _ _ _ _ _)
      | (with_reducible exact codewrightlaw51_alive.mono _)
      | (with_reducible exact codewrightref51_Ends.mono _ _ _ _ _)
      | (with_reducible exact codewrightref51_IsFlow.mono _ _ _ _ _ _)
      | (with_reducible exact flow_Cut.mono _ _ _ _)
      | (with_reducible exact flow_Value.mono _ _ _ _ _)
      | (with_reducible exact LeO.refl _)
      | (with_reducible exact LeO.none _)
      | (with_reducible refine LeO.ite ?_ ?_)
      | (with_reducible refine LeO.bind ?_ (fun _ => ?_))
      | exact ih0 _ _ _ _ _ _ _ _ _ _
      | exact codewrightlaw51_alive.mono _
      | exact codewrightref51_Ends.mono _ _ _ _ _
      | exact codewrightref51_IsFlow.mono _ _ _ _ _ _
      | exact flow_Cut.mono _ _ _ _
      | exact flow_Value.mono _ _ _ _ _
      | exact LeO.none _
      | refine LeO.ite ?_ ?_
      | refine LeO.bind ?_ (fun _ => ?_)
set_option maxHeartbeats 8000000 in
set_option maxRecDepth 100000 in
theorem codewrightlaw51_FlowDuality.calls (k : Nat) (a0_0 : Int) (A0_1 : Option Addr) (c0_1 : Nat) (l0_1 : List (S36)) (a0_2 : Int) (a0_3 : Int) (a0_4 : Int) (A0_5 : Option Addr) (c0_5 : Nat) (l0_5 : List Int) (A0_6 : Option Addr) (c0_6 : Nat) (l0_6 : List Bool) (A0_7 : Option Addr) (c0_7 : Nat) (l0_7 : List Int) (A0_8 : Option Addr) (c0_8 : Nat) (l0_8 : List Bool) (r : Bool) (w : World) (hr0_1 : Kd.C k36 w A0_1 l0_1.length l0_1) (hc0_1 : l0_1.length ≤ c0_1) (hr0_5 : Kd.C (Kd.int .i64) w A0_5 l0_5.length l0_5) (hc0_5 : l0_5.length ≤ c0_5) (hr0_6 : Kd.C Kd.bool w A0_6 l0_6.length l0_6) (hc0_6 : l0_6.length ≤ c0_6) (hr0_7 : Kd.C (Kd.int .i64) w A0_7 l0_7.length l0_7) (hc0_7 : l0_7.length ≤ c0_7) (hr0_8 : Kd.C Kd.bool w A0_8 l0_8.length l0_8) (hc0_8 : l0_8.length ≤ c0_8) (h : codewrightlaw51_FlowDuality.f k a0_0 l0_1 a0_2 a0_3 a0_4 l0_5 l0_6 l0_7 l0_8 = some r) :
    Calls Try.prog 6 #[.agg #[.int .i64 a0_0, .slice A0_1 l0_1.length c0_1, .int .i64 a0_2, .int .i64 a0_3, .int .i64 a0_4, .slice A0_5 l0_5.length c0_5, .slice A0_6 l0_6.length c0_6, .slice A0_7 l0_7.length c0_7, .slice A0_8 l0_8.length c0_8]] w fun e w' => e = .returned (.bool r) ∧ Below w.heap.size w w' := by
  have hu41 := Try.underlying41
  have hu24 := Try.underlying24
  have HR0_1 := Aside0.mk hr0_1
  have HC0_1 := Aside0.mk hc0_1
  clear hr0_1 hc0_1
  have HR0_5 := Aside0.mk hr0_5
  have HC0_5 := Aside0.mk hc0_5
  clear hr0_5 hc0_5
  have HR0_6 := Aside0.mk hr0_6
  have HC0_6 := Aside0.mk hc0_6
  clear hr0_6 hc0_6
  have HR0_7 := Aside0.mk hr0_7
  have HC0_7 := Aside0.mk hc0_7
  clear hr0_7 hc0_7
  have HR0_8 := Aside0.mk hr0_8
  have HC0_8 := Aside0.mk hc0_8
  clear hr0_8 hc0_8
  have HB := Aside0.mk (Below.refl w.heap.size w)
  have H : ((codewrightlaw51_alive.f k).bind fun t204 => (if t204 = true then ((codewrightref51_Ends.f k a0_0 l0_1 a0_2 a0_3).bind fun t205 => (if t205 = 0 then ((codewrightref51_IsFlow.f k a0_0 l0_1 a0_2 a0_3 l0_7).bind fun t206 => (if t206 = true then ((codewrightref51_IsCut.f a0_0 l0_1 a0_2 a0_3 l0_8).bind fun t207 => (codewrightlaw51_FlowDuality.j0 k (!t207) a0_0 l0_1 a0_2 a0_3 a0_4 l0_5 l0_6 l0_7 l0_8)) else (codewrightlaw51_FlowDuality.j0 k true a0_0 l0_1 a0_2 a0_3 a0_4 l0_5 l0_6 l0_7 l0_8))) else (codewrightlaw51_FlowDuality.j0 k true a0_0 l0_1 a0_2 a0_3 a0_4 l0_5 l0_6 l0_7 l0_8))) else (some false))) = some r := h
  clear h
  replace H := Option.bind_eq_some_iff.mp H
  obtain ⟨t204, A20, H⟩ := H
  replace H : (if t204 = true then ((codewrightref51_Ends.f k a0_0 l0_1 a0_2 a0_3).bind fun t205 => (if t205 = 0 then ((codewrightref51_IsFlow.f k a0_0 l0_1 a0_2 a0_3 l0_7).bind fun t206 => (if t206 = true then ((codewrightref51_IsCut.f a0_0 l0_1 a0_2 a0_3 l0_8).bind fun t207 => (codewrightlaw51_FlowDuality.j0 k (!t207) a0_0 l0_1 a0_2 a0_3 a0_4 l0_5 l0_6 l0_7 l0_8)) else (codewrightlaw51_FlowDuality.j0 k true a0_0 l0_1 a0_2 a0_3 a0_4 l0_5 l0_6 l0_7 l0_8))) else (codewrightlaw51_FlowDuality.j0 k true a0_0 l0_1 a0_2 a0_3 a0_4 l0_5 l0_6 l0_7 l0_8))) else (some false)) = some r := H
  have A2 := Aside0.mk A20
  clear A20
  by_cases c3 : t204 = true
  · subst c3
    have H1 : ((codewrightref51_Ends.f k a0_0 l0_1 a0_2 a0_3).bind fun t205 => (if t205 = 0 then ((codewrightref51_IsFlow.f k a0_0 l0_1 a0_2 a0_3 l0_7).bind fun t206 => (if t206 = true then ((codewrightref51_IsCut.f a0_0 l0_1 a0_2 a0_3 l0_8).bind fun t207 => (codewrightlaw51_FlowDuality.j0 k (!t207) a0_0 l0_1 a0_2 a0_3 a0_4 l0_5 l0_6 l0_7 l0_8)) else (codewrightlaw51_FlowDuality.j0 k true a0_0 l0_1 a0_2 a0_3 a0_4 l0_5 l0_6 l0_7 l0_8))) else (codewrightlaw51_FlowDuality.j0 k true a0_0 l0_1 a0_2 a0_3 a0_4 l0_5 l0_6 l0_7 l0_8))) = some r := by rw [if_pos rfl] at H; exact H
    clear H
    have H := H1
    clear H1
    have HC4 := Aside0.mk H
    clear H
    go_enter Try.func6, Try.ntmps6
    go_upto_region 3 with (first | ((with_reducible refine gate_dst (N := 1) rfl ?_); refine box_event ?hg (N := 1) ?hd (cs := #[.int .i64 a0_0, .slice A0_1 l0_1.length c0_1, .int .i64 a0_2, .int .i64 a0_3, .int .i64 a0_4, .slice A0_5 l0_5.length c0_5, .slice A0_6 l0_6.length c0_6, .slice A0_7 l0_7.length c0_7, .slice A0_8 l0_8.length c0_8]) (t := 41) ?hr ?_; (case hd => rfl); (case hg => rfl); (case hr => first | (go_simp; done) | (go_simp; rfl)); intro gb203 hg w5 hbox hb; have n0_ := Aside0.mk (below_step (by repeat (first | (with_reducible first | exact HB.out | apply below_alloc | apply pw_below_drewN | apply below_drew1) | exact HB.out)) hb); have n1_ := Aside0.mk (hbox); have n2_ := Aside0.mk ((by rw [hg]; exact (below_size (by repeat (first | (with_reducible first | exact HB.out | apply below_alloc | apply pw_below_drewN | apply below_drew1) | exact HB.out))) : w.heap.size ≤ gb203)); have n3_ := Aside0.mk ((by rw [hg]; exact (below_size (by repeat (first | (with_reducible first | exact HB.out | apply below_alloc | apply pw_below_drewN | apply below_drew1) | exact HB.out))) : w.heap.size ≤ gb203)); clear HB; have HB := n0_; have BK203 := n1_; have GW203 := n2_; have GE203 := n3_; clear n0_ n1_ n2_ n3_; clear hb hbox hg) | ((with_reducible refine gate_callee (f := 18) rfl ?_); refine goesL_ (some 9) rfl rfl Try.func18 (by kernel_rfl) rfl #[] rfl (by (try simp only [List.map_toArray, List.map_cons, List.map_nil]); first | done | rfl | (simp only [List.length_drop, List.length_take]; rfl)) ?_; (with_reducible refine (codewrightlaw51_alive.calls k  true _ A2.out).mono ?_); rintro e w6 ⟨rfl, hb⟩; refine ⟨_, rfl, ?_⟩; have n0_ := Aside0.mk (blk_below (g := gb203) (o := .cells #[.int .i64 a0_0, .slice A0_1 l0_1.length c0_1, .int .i64 a0_2, .int .i64 a0_3, .int .i64 a0_4, .slice A0_5 l0_5.length c0_5, .slice A0_6 l0_6.length c0_6, .slice A0_7 l0_7.length c0_7, .slice A0_8 l0_8.length c0_8] 41 (0, 0)) (by (with_reducible repeat (first | refine blk_drewN ?_ _ | refine blk_drew ?_ | refine blk_alloc ?_ _)); exact BK203.out) hb); have n1_ := Aside0.mk (below_step (by repeat (first | (with_reducible first | exact HB.out | apply below_alloc | apply pw_below_drewN | apply below_drew1 | refine below_set ?_ GE203.out) | exact HB.out)) hb); clear BK203; clear HB; have BK203 := n0_; have HB := n1_; clear n0_ n1_; (try clear hb); (try clear hb2); (try clear hk); (try clear hi)))
    (try simp only [Act.put, List.setIfInBounds_toArray, List.set_cons_zero, List.set_cons_succ])
    go_cut [42] (fun v42 wc => ∃ (kq : Nat) (x42_3 : Bool), v42 = .bool x42_3 ∧ Aside0 (codewrightlaw51_FlowDuality.j0 kq x42_3 a0_0 l0_1 a0_2 a0_3 a0_4 l0_5 l0_6 l0_7 l0_8 = some r) ∧ Aside0 (kq ≤ k) ∧ Aside0 (wc.heap[gb203]? = some (.cells #[.int .i64 a0_0, (.slice A0_1 l0_1.length c0_1), .int .i64 a0_2, .int .i64 a0_3, .int .i64 a0_4, (.slice A0_5 l0_5.length c0_5), (.slice A0_6 l0_6.length c0_6), (.slice A0_7 l0_7.length c0_7), (.slice A0_8 l0_8.length c0_8)] 41 (0, 0))) ∧ Aside0 (Below w.heap.size w wc))
    case first =>
      have H := HC4.out
      clear HC4
      replace H := Option.bind_eq_some_iff.mp H
      obtain ⟨t205, A70, H⟩ := H
      replace H : (if t205 = 0 then ((codewrightref51_IsFlow.f k a0_0 l0_1 a0_2 a0_3 l0_7).bind fun t206 => (if t206 = true then ((codewrightref51_IsCut.f a0_0 l0_1 a0_2 a0_3 l0_8).bind fun t207 => (codewrightlaw51_FlowDuality.j0 k (!t207) a0_0 l0_1 a0_2 a0_3 a0_4 l0_5 l0_6 l0_7 l0_8)) else (codewrightlaw51_FlowDuality.j0 k true a0_0 l0_1 a0_2 a0_3 a0_4 l0_5 l0_6 l0_7 l0_8))) else (codewrightlaw51_FlowDuality.j0 k true a0_0 l0_1 a0_2 a0_3 a0_4 l0_5 l0_6 l0_7 l0_8)) = some r := H
      have A7 := Aside0.mk A70
      clear A70
      by_cases c8 : t205 = 0
      · rw [if_pos c8] at H
        have c8b0 : (t205 == 0) = true := beq_iff_eq.mpr c8
        have c8b1 : (t205 != 0) = false := bne_eq_false_iff_eq.mpr c8
        clear c8
        (first | rw [c8b0] | (simp only [i64_w, i32_w]; rw [c8b0]) | skip)
        replace H := Option.bind_eq_some_iff.mp H
        obtain ⟨t206, A90, H⟩ := H
        replace H : (if t206 = true then ((codewrightref51_IsCut.f a0_0 l0_1 a0_2 a0_3 l0_8).bind fun t207 => (codewrightlaw51_FlowDuality.j0 k (!t207) a0_0 l0_1 a0_2 a0_3 a0_4 l0_5 l0_6 l0_7 l0_8)) else (codewrightlaw51_FlowDuality.j0 k true a0_0 l0_1 a0_2 a0_3 a0_4 l0_5 l0_6 l0_7 l0_8)) = some r := H
        have A9 := Aside0.mk A90
        clear A90
        by_cases c10 : t206 = true
        · subst c10
          have H1 : ((codewrightref51_IsCut.f a0_0 l0_1 a0_2 a0_3 l0_8).bind fun t207 => (codewrightlaw51_FlowDuality.j0 k (!t207) a0_0 l0_1 a0_2 a0_3 a0_4 l0_5 l0_6 l0_7 l0_8)) = some r := by rw [if_pos rfl] at H; exact H
          clear H
          have H := H1
          clear H1
          replace H := Option.bind_eq_some_iff.mp H
          obtain ⟨t207, A110, H⟩ := H
          replace H : (codewrightlaw51_FlowDuality.j0 k (!t207) a0_0 l0_1 a0_2 a0_3 a0_4 l0_5 l0_6 l0_7 l0_8) = some r := H
          have A11 := Aside0.mk A110
          clear A110
          have H' := Aside0.mk H
          clear H
          have hcz12_0 : w6.cell? ⟨gb203, 0, none⟩ = some (.int .i64 a0_0) := (blk_cell BK203.out 0).trans rfl
          have hcz12_1 : w6.cell? ⟨gb203, 1, none⟩ = some (.slice A0_1 l0_1.length c0_1) := (blk_cell BK203.out 1).trans rfl
          have hcz12_2 : w6.cell? ⟨gb203, 2, none⟩ = some (.int .i64 a0_2) := (blk_cell BK203.out 2).trans rfl
          have hcz12_3 : w6.cell? ⟨gb203, 3, none⟩ = some (.int .i64 a0_3) := (blk_cell BK203.out 3).trans rfl
          have hcz12_4 : w6.cell? ⟨gb203, 4, none⟩ = some (.int .i64 a0_4) := (blk_cell BK203.out 4).trans rfl
          have hcz12_5 : w6.cell? ⟨gb203, 5, none⟩ = some (.slice A0_5 l0_5.length c0_5) := (blk_cell BK203.out 5).trans rfl
          have hcz12_6 : w6.cell? ⟨gb203, 6, none⟩ = some (.slice A0_6 l0_6.length c0_6) := (blk_cell BK203.out 6).trans rfl
          have hcz12_7 : w6.cell? ⟨gb203, 7, none⟩ = some (.slice A0_7 l0_7.length c0_7) := (blk_cell BK203.out 7).trans rfl
          have hcz12_8 : w6.cell? ⟨gb203, 8, none⟩ = some (.slice A0_8 l0_8.length c0_8) := (blk_cell BK203.out 8).trans rfl
          have hfz12_0 := blk_frozen BK203.out 0
          have hfz12_1 := blk_frozen BK203.out 1
          have hfz12_2 := blk_frozen BK203.out 2
          have hfz12_3 := blk_frozen BK203.out 3
          have hfz12_4 := blk_frozen BK203.out 4
          have hfz12_5 := blk_frozen BK203.out 5
          have hfz12_6 := blk_frozen BK203.out 6
          have hfz12_7 := blk_frozen BK203.out 7
          have hfz12_8 := blk_frozen BK203.out 8
          go_wp2_with (first | ((with_reducible refine gate_callee (f := 21) rfl ?_); refine goesL_ (some 17) rfl rfl Try.func21 (by kernel_rfl) rfl #[.agg #[.int .i64 a0_0, .slice A0_1 l0_1.length c0_1], .int .i64 a0_2, .int .i64 a0_3] rfl (by (try simp only [List.map_toArray, List.map_cons, List.map_nil]); first | done | rfl | (simp only [List.length_drop, List.length_take]; rfl)) ?_; (with_reducible refine (codewrightref51_Ends.calls k a0_0 _ _ l0_1 a0_2 a0_3 t205 _ ?side1 ?side2 A7.out).mono ?_); (case side1 => repeat (first | exact (Kd.C_below HR0_1.out HB.out) | (with_reducible refine Kd.C_alloc ?_ _) | (with_reducible refine Kd.C_drewN ?_ _) | (with_reducible refine Kd.C_drew ?_))); (case side2 => exact HC0_1.out); rintro e w13 ⟨rfl, hb⟩; refine ⟨_, rfl, ?_⟩; have n0_ := Aside0.mk (blk_below (g := gb203) (o := .cells #[.int .i64 a0_0, .slice A0_1 l0_1.length c0_1, .int .i64 a0_2, .int .i64 a0_3, .int .i64 a0_4, .slice A0_5 l0_5.length c0_5, .slice A0_6 l0_6.length c0_6, .slice A0_7 l0_7.length c0_7, .slice A0_8 l0_8.length c0_8] 41 (0, 0)) (by (with_reducible repeat (first | refine blk_drewN ?_ _ | refine blk_drew ?_ | refine blk_alloc ?_ _)); exact BK203.out) hb); have n1_ := Aside0.mk (below_step (by repeat (first | (with_reducible first | exact HB.out | apply below_alloc | apply pw_below_drewN | apply below_drew1 | refine below_set ?_ GE203.out) | exact HB.out)) hb); clear BK203; clear HB; have BK203 := n0_; have HB := n1_; clear n0_ n1_; (try clear hb); (try clear hb2); (try clear hk); (try clear hi); have hcz14_0 : w13.cell? ⟨gb203, 0, none⟩ = some (.int .i64 a0_0) := (blk_cell BK203.out 0).trans rfl; have hcz14_1 : w13.cell? ⟨gb203, 1, none⟩ = some (.slice A0_1 l0_1.length c0_1) := (blk_cell BK203.out 1).trans rfl; have hcz14_2 : w13.cell? ⟨gb203, 2, none⟩ = some (.int .i64 a0_2) := (blk_cell BK203.out 2).trans rfl; have hcz14_3 : w13.cell? ⟨gb203, 3, none⟩ = some (.int .i64 a0_3) := (blk_cell BK203.out 3).trans rfl; have hcz14_4 : w13.cell? ⟨gb203, 4, none⟩ = some (.int .i64 a0_4) := (blk_cell BK203.out 4).trans rfl; have hcz14_5 : w13.cell? ⟨gb203, 5, none⟩ = some (.slice A0_5 l0_5.length c0_5) := (blk_cell BK203.out 5).trans rfl; have hcz14_6 : w13.cell? ⟨gb203, 6, none⟩ = some (.slice A0_6 l0_6.length c0_6) := (blk_cell BK203.out 6).trans rfl; have hcz14_7 : w13.cell? ⟨gb203, 7, none⟩ = some (.slice A0_7 l0_7.length c0_7) := (blk_cell BK203.out 7).trans rfl; have hcz14_8 : w13.cell? ⟨gb203, 8, none⟩ = some (.slice A0_8 l0_8.length c0_8) := (blk_cell BK203.out 8).trans rfl; have hfz14_0 := blk_frozen BK203.out 0; have hfz14_1 := blk_frozen BK203.out 1; have hfz14_2 := blk_frozen BK203.out 2; have hfz14_3 := blk_frozen BK203.out 3; have hfz14_4 := blk_frozen BK203.out 4; have hfz14_5 := blk_frozen BK203.out 5; have hfz14_6 := blk_frozen BK203.out 6; have hfz14_7 := blk_frozen BK203.out 7; have hfz14_8 := blk_frozen BK203.out 8) | (go_at_call 22; (with_reducible refine (codewrightref51_IsFlow.calls k a0_0 _ _ l0_1 a0_2 a0_3 _ _ l0_7 true _ ?side1 ?side2 ?side3 ?side4 A9.out).mono ?_); (case side1 => repeat (first | exact (Kd.C_below HR0_1.out HB.out) | (with_reducible refine Kd.C_alloc ?_ _) | (with_reducible refine Kd.C_drewN ?_ _) | (with_reducible refine Kd.C_drew ?_))); (case side2 => exact HC0_1.out); (case side3 => repeat (first | exact (Kd.C_below HR0_7.out HB.out) | (with_reducible refine Kd.C_alloc ?_ _) | (with_reducible refine Kd.C_drewN ?_ _) | (with_reducible refine Kd.C_drew ?_))); (case side4 => exact HC0_7.out); rintro e w15 ⟨rfl, hb⟩; have n0_ := Aside0.mk (blk_below (g := gb203) (o := .cells #[.int .i64 a0_0, .slice A0_1 l0_1.length c0_1, .int .i64 a0_2, .int .i64 a0_3, .int .i64 a0_4, .slice A0_5 l0_5.length c0_5, .slice A0_6 l0_6.length c0_6, .slice A0_7 l0_7.length c0_7, .slice A0_8 l0_8.length c0_8] 41 (0, 0)) (by (with_reducible repeat (first | refine blk_drewN ?_ _ | refine blk_drew ?_ | refine blk_alloc ?_ _)); exact BK203.out) hb); have n1_ := Aside0.mk (below_step (by repeat (first | (with_reducible first | exact HB.out | apply below_alloc | apply pw_below_drewN | apply below_drew1 | refine below_set ?_ GE203.out) | exact HB.out)) hb); clear BK203; clear HB; have BK203 := n0_; have HB := n1_; clear n0_ n1_; (try clear hb); (try clear hb2); (try clear hk); (try clear hi); have hcz16_0 : w15.cell? ⟨gb203, 0, none⟩ = some (.int .i64 a0_0) := (blk_cell BK203.out 0).trans rfl; have hcz16_1 : w15.cell? ⟨gb203, 1, none⟩ = some (.slice A0_1 l0_1.length c0_1) := (blk_cell BK203.out 1).trans rfl; have hcz16_2 : w15.cell? ⟨gb203, 2, none⟩ = some (.int .i64 a0_2) := (blk_cell BK203.out 2).trans rfl; have hcz16_3 : w15.cell? ⟨gb203, 3, none⟩ = some (.int .i64 a0_3) := (blk_cell BK203.out 3).trans rfl; have hcz16_4 : w15.cell? ⟨gb203, 4, none⟩ = some (.int .i64 a0_4) := (blk_cell BK203.out 4).trans rfl; have hcz16_5 : w15.cell? ⟨gb203, 5, none⟩ = some (.slice A0_5 l0_5.length c0_5) := (blk_cell BK203.out 5).trans rfl; have hcz16_6 : w15.cell? ⟨gb203, 6, none⟩ = some (.slice A0_6 l0_6.length c0_6) := (blk_cell BK203.out 6).trans rfl; have hcz16_7 : w15.cell? ⟨gb203, 7, none⟩ = some (.slice A0_7 l0_7.length c0_7) := (blk_cell BK203.out 7).trans rfl; have hcz16_8 : w15.cell? ⟨gb203, 8, none⟩ = some (.slice A0_8 l0_8.length c0_8) := (blk_cell BK203.out 8).trans rfl; have hfz16_0 := blk_frozen BK203.out 0; have hfz16_1 := blk_frozen BK203.out 1; have hfz16_2 := blk_frozen BK203.out 2; have hfz16_3 := blk_frozen BK203.out 3; have hfz16_4 := blk_frozen BK203.out 4; have hfz16_5 := blk_frozen BK203.out 5; have hfz16_6 := blk_frozen BK203.out 6; have hfz16_7 := blk_frozen BK203.out 7; have hfz16_8 := blk_frozen BK203.out 8) | (go_at_call 23; (with_reducible refine (codewrightref51_IsCut.calls a0_0 _ _ l0_1 a0_2 a0_3 _ _ l0_8 t207 _ ?side1 ?side2 ?side3 ?side4 A11.out).mono ?_); (case side1 => repeat (first | exact (Kd.C_below HR0_1.out HB.out) | (with_reducible refine Kd.C_alloc ?_ _) | (with_reducible refine Kd.C_drewN ?_ _) | (with_reducible refine Kd.C_drew ?_))); (case side2 => exact HC0_1.out); (case side3 => repeat (first | exact (Kd.C_below HR0_8.out HB.out) | (with_reducible refine Kd.C_alloc ?_ _) | (with_reducible refine Kd.C_drewN ?_ _) | (with_reducible refine Kd.C_drew ?_))); (case side4 => exact HC0_8.out); rintro e w17 ⟨rfl, hb⟩; have n0_ := Aside0.mk (blk_below (g := gb203) (o := .cells #[.int .i64 a0_0, .slice A0_1 l0_1.length c0_1, .int .i64 a0_2, .int .i64 a0_3, .int .i64 a0_4, .slice A0_5 l0_5.length c0_5, .slice A0_6 l0_6.length c0_6, .slice A0_7 l0_7.length c0_7, .slice A0_8 l0_8.length c0_8] 41 (0, 0)) (by (with_reducible repeat (first | refine blk_drewN ?_ _ | refine blk_drew ?_ | refine blk_alloc ?_ _)); exact BK203.out) hb); have n1_ := Aside0.mk (below_step (by repeat (first | (with_reducible first | exact HB.out | apply below_alloc | apply pw_below_drewN | apply below_drew1 | refine below_set ?_ GE203.out) | exact HB.out)) hb); clear BK203; clear HB; have BK203 := n0_; have HB := n1_; clear n0_ n1_; (try clear hb); (try clear hb2); (try clear hk); (try clear hi)))
          go_meet
          case rel => exact ⟨_, (!t207), (by first | rfl | (simp; done) | (simp [*]; done)), H', ⟨by first | omega | exact Nat.le_refl _⟩, ⟨by (with_reducible repeat (first | refine blk_drewN ?_ _ | refine blk_drew ?_ | refine blk_alloc ?_ _)); exact BK203.out⟩, ⟨by repeat (first | (with_reducible first | exact HB.out | apply below_alloc | apply pw_below_drewN | apply below_drew1 | refine below_set ?_ GE203.out) | exact HB.out)⟩⟩
        · replace c10 := Bool.eq_false_iff.mpr c10
          subst c10
          have H1 : (codewrightlaw51_FlowDuality.j0 k true a0_0 l0_1 a0_2 a0_3 a0_4 l0_5 l0_6 l0_7 l0_8) = some r := by rw [if_neg (show ¬ (false = true) by decide)] at H; exact H
          clear H
          have H := H1
          clear H1
          have H' := Aside0.mk H
          clear H
          have hcz18_0 : w6.cell? ⟨gb203, 0, none⟩ = some (.int .i64 a0_0) := (blk_cell BK203.out 0).trans rfl
          have hcz18_1 : w6.cell? ⟨gb203, 1, none⟩ = some (.slice A0_1 l0_1.length c0_1) := (blk_cell BK203.out 1).trans rfl
          have hcz18_2 : w6.cell? ⟨gb203, 2, none⟩ = some (.int .i64 a0_2) := (blk_cell BK203.out 2).trans rfl
          have hcz18_3 : w6.cell? ⟨gb203, 3, none⟩ = some (.int .i64 a0_3) := (blk_cell BK203.out 3).trans rfl
          have hcz18_4 : w6.cell? ⟨gb203, 4, none⟩ = some (.int .i64 a0_4) := (blk_cell BK203.out 4).trans rfl
          have hcz18_5 : w6.cell? ⟨gb203, 5, none⟩ = some (.slice A0_5 l0_5.length c0_5) := (blk_cell BK203.out 5).trans rfl
          have hcz18_6 : w6.cell? ⟨gb203, 6, none⟩ = some (.slice A0_6 l0_6.length c0_6) := (blk_cell BK203.out 6).trans rfl
          have hcz18_7 : w6.cell? ⟨gb203, 7, none⟩ = some (.slice A0_7 l0_7.length c0_7) := (blk_cell BK203.out 7).trans rfl
          have hcz18_8 : w6.cell? ⟨gb203, 8, none⟩ = some (.slice A0_8 l0_8.length c0_8) := (blk_cell BK203.out 8).trans rfl
          have hfz18_0 := blk_frozen BK203.out 0
          have hfz18_1 := blk_frozen BK203.out 1
          have hfz18_2 := blk_frozen BK203.out 2
          have hfz18_3 := blk_frozen BK203.out 3
          have hfz18_4 := blk_frozen BK203.out 4
          have hfz18_5 := blk_frozen BK203.out 5
          have hfz18_6 := blk_frozen BK203.out 6
          have hfz18_7 := blk_frozen BK203.out 7
          have hfz18_8 := blk_frozen BK203.out 8
          go_wp2_with (first | ((with_reducible refine gate_callee (f := 21) rfl ?_); refine goesL_ (some 17) rfl rfl Try.func21 (by kernel_rfl) rfl #[.agg #[.int .i64 a0_0, .slice A0_1 l0_1.length c0_1], .int .i64 a0_2, .int .i64 a0_3] rfl (by (try simp only [List.map_toArray, List.map_cons, List.map_nil]); first | done | rfl | (simp only [List.length_drop, List.length_take]; rfl)) ?_; (with_reducible refine (codewrightref51_Ends.calls k a0_0 _ _ l0_1 a0_2 a0_3 t205 _ ?side1 ?side2 A7.out).mono ?_); (case side1 => repeat (first | exact (Kd.C_below HR0_1.out HB.out) | (with_reducible refine Kd.C_alloc ?_ _) | (with_reducible refine Kd.C_drewN ?_ _) | (with_reducible refine Kd.C_drew ?_))); (case side2 => exact HC0_1.out); rintro e w19 ⟨rfl, hb⟩; refine ⟨_, rfl, ?_⟩; have n0_ := Aside0.mk (blk_below (g := gb203) (o := .cells #[.int .i64 a0_0, .slice A0_1 l0_1.length c0_1, .int .i64 a0_2, .int .i64 a0_3, .int .i64 a0_4, .slice A0_5 l0_5.length c0_5, .slice A0_6 l0_6.length c0_6, .slice A0_7 l0_7.length c0_7, .slice A0_8 l0_8.length c0_8] 41 (0, 0)) (by (with_reducible repeat (first | refine blk_drewN ?_ _ | refine blk_drew ?_ | refine blk_alloc ?_ _)); exact BK203.out) hb); have n1_ := Aside0.mk (below_step (by repeat (first | (with_reducible first | exact HB.out | apply below_alloc | apply pw_below_drewN | apply below_drew1 | refine below_set ?_ GE203.out) | exact HB.out)) hb); clear BK203; clear HB; have BK203 := n0_; have HB := n1_; clear n0_ n1_; (try clear hb); (try clear hb2); (try clear hk); (try clear hi); have hcz20_0 : w19.cell? ⟨gb203, 0, none⟩ = some (.int .i64 a0_0) := (blk_cell BK203.out 0).trans rfl; have hcz20_1 : w19.cell? ⟨gb203, 1, none⟩ = some (.slice A0_1 l0_1.length c0_1) := (blk_cell BK203.out 1).trans rfl; have hcz20_2 : w19.cell? ⟨gb203, 2, none⟩ = some (.int .i64 a0_2) := (blk_cell BK203.out 2).trans rfl; have hcz20_3 : w19.cell? ⟨gb203, 3, none⟩ = some (.int .i64 a0_3) := (blk_cell BK203.out 3).trans rfl; have hcz20_4 : w19.cell? ⟨gb203, 4, none⟩ = some (.int .i64 a0_4) := (blk_cell BK203.out 4).trans rfl; have hcz20_5 : w19.cell? ⟨gb203, 5, none⟩ = some (.slice A0_5 l0_5.length c0_5) := (blk_cell BK203.out 5).trans rfl; have hcz20_6 : w19.cell? ⟨gb203, 6, none⟩ = some (.slice A0_6 l0_6.length c0_6) := (blk_cell BK203.out 6).trans rfl; have hcz20_7 : w19.cell? ⟨gb203, 7, none⟩ = some (.slice A0_7 l0_7.length c0_7) := (blk_cell BK203.out 7).trans rfl; have hcz20_8 : w19.cell? ⟨gb203, 8, none⟩ = some (.slice A0_8 l0_8.length c0_8) := (blk_cell BK203.out 8).trans rfl; have hfz20_0 := blk_frozen BK203.out 0; have hfz20_1 := blk_frozen BK203.out 1; have hfz20_2 := blk_frozen BK203.out 2; have hfz20_3 := blk_frozen BK203.out 3; have hfz20_4 := blk_frozen BK203.out 4; have hfz20_5 := blk_frozen BK203.out 5; have hfz20_6 := blk_frozen BK203.out 6; have hfz20_7 := blk_frozen BK203.out 7; have hfz20_8 := blk_frozen BK203.out 8) | (go_at_call 22; (with_reducible refine (codewrightref51_IsFlow.calls k a0_0 _ _ l0_1 a0_2 a0_3 _ _ l0_7 false _ ?side1 ?side2 ?side3 ?side4 A9.out).mono ?_); (case side1 => repeat (first | exact (Kd.C_below HR0_1.out HB.out) | (with_reducible refine Kd.C_alloc ?_ _) | (with_reducible refine Kd.C_drewN ?_ _) | (with_reducible refine Kd.C_drew ?_))); (case side2 => exact HC0_1.out); (case side3 => repeat (first | exact (Kd.C_below HR0_7.out HB.out) | (with_reducible refine Kd.C_alloc ?_ _) | (with_reducible refine Kd.C_drewN ?_ _) | (with_reducible refine Kd.C_drew ?_))); (case side4 => exact HC0_7.out); rintro e w21 ⟨rfl, hb⟩; have n0_ := Aside0.mk (blk_below (g := gb203) (o := .cells #[.int .i64 a0_0, .slice A0_1 l0_1.length c0_1, .int .i64 a0_2, .int .i64 a0_3, .int .i64 a0_4, .slice A0_5 l0_5.length c0_5, .slice A0_6 l0_6.length c0_6, .slice A0_7 l0_7.length c0_7, .slice A0_8 l0_8.length c0_8] 41 (0, 0)) (by (with_reducible repeat (first | refine blk_drewN ?_ _ | refine blk_drew ?_ | refine blk_alloc ?_ _)); exact BK203.out) hb); have n1_ := Aside0.mk (below_step (by repeat (first | (with_reducible first | exact HB.out | apply below_alloc | apply pw_below_drewN | apply below_drew1 | refine below_set ?_ GE203.out) | exact HB.out)) hb); clear BK203; clear HB; have BK203 := n0_; have HB := n1_; clear n0_ n1_; (try clear hb); (try clear hb2); (try clear hk); (try clear hi)))
          go_meet
          case rel => exact ⟨_, (true), (by first | rfl | (simp; done) | (simp [*]; done)), H', ⟨by first | omega | exact Nat.le_refl _⟩, ⟨by (with_reducible repeat (first | refine blk_drewN ?_ _ | refine blk_drew ?_ | refine blk_alloc ?_ _)); exact BK203.out⟩, ⟨by repeat (first | (with_reducible first | exact HB.out | apply below_alloc | apply pw_below_drewN | apply below_drew1 | refine below_set ?_ GE203.out) | exact HB.out)⟩⟩
      · rw [if_neg c8] at H
        have c8b0 : (t205 == 0) = false := beq_eq_false_iff_ne.mpr c8
        have c8b1 : (t205 != 0) = true := bne_iff_ne.mpr c8
        (first | rw [c8b0] | (simp only [i64_w, i32_w]; rw [c8b0]) | skip)
        have H' := Aside0.mk H
        clear H
        have hcz22_0 : w6.cell? ⟨gb203, 0, none⟩ = some (.int .i64 a0_0) := (blk_cell BK203.out 0).trans rfl
        have hcz22_1 : w6.cell? ⟨gb203, 1, none⟩ = some (.slice A0_1 l0_1.length c0_1) := (blk_cell BK203.out 1).trans rfl
        have hcz22_2 : w6.cell? ⟨gb203, 2, none⟩ = some (.int .i64 a0_2) := (blk_cell BK203.out 2).trans rfl
        have hcz22_3 : w6.cell? ⟨gb203, 3, none⟩ = some (.int .i64 a0_3) := (blk_cell BK203.out 3).trans rfl
        have hcz22_4 : w6.cell? ⟨gb203, 4, none⟩ = some (.int .i64 a0_4) := (blk_cell BK203.out 4).trans rfl
        have hcz22_5 : w6.cell? ⟨gb203, 5, none⟩ = some (.slice A0_5 l0_5.length c0_5) := (blk_cell BK203.out 5).trans rfl
        have hcz22_6 : w6.cell? ⟨gb203, 6, none⟩ = some (.slice A0_6 l0_6.length c0_6) := (blk_cell BK203.out 6).trans rfl
        have hcz22_7 : w6.cell? ⟨gb203, 7, none⟩ = some (.slice A0_7 l0_7.length c0_7) := (blk_cell BK203.out 7).trans rfl
        have hcz22_8 : w6.cell? ⟨gb203, 8, none⟩ = some (.slice A0_8 l0_8.length c0_8) := (blk_cell BK203.out 8).trans rfl
        have hfz22_0 := blk_frozen BK203.out 0
        have hfz22_1 := blk_frozen BK203.out 1
        have hfz22_2 := blk_frozen BK203.out 2
        have hfz22_3 := blk_frozen BK203.out 3
        have hfz22_4 := blk_frozen BK203.out 4
        have hfz22_5 := blk_frozen BK203.out 5
        have hfz22_6 := blk_frozen BK203.out 6
        have hfz22_7 := blk_frozen BK203.out 7
        have hfz22_8 := blk_frozen BK203.out 8
        go_wp2_with (first | ((with_reducible refine gate_callee (f := 21) rfl ?_); refine goesL_ (some 17) rfl rfl Try.func21 (by kernel_rfl) rfl #[.agg #[.int .i64 a0_0, .slice A0_1 l0_1.length c0_1], .int .i64 a0_2, .int .i64 a0_3] rfl (by (try simp only [List.map_toArray, List.map_cons, List.map_nil]); first | done | rfl | (simp only [List.length_drop, List.length_take]; rfl)) ?_; (with_reducible refine (codewrightref51_Ends.calls k a0_0 _ _ l0_1 a0_2 a0_3 t205 _ ?side1 ?side2 A7.out).mono ?_); (case side1 => repeat (first | exact (Kd.C_below HR0_1.out HB.out) | (with_reducible refine Kd.C_alloc ?_ _) | (with_reducible refine Kd.C_drewN ?_ _) | (with_reducible refine Kd.C_drew ?_))); (case side2 => exact HC0_1.out); rintro e w23 ⟨rfl, hb⟩; refine ⟨_, rfl, ?_⟩; have n0_ := Aside0.mk (blk_below (g := gb203) (o := .cells #[.int .i64 a0_0, .slice A0_1 l0_1.length c0_1, .int .i64 a0_2, .int .i64 a0_3, .int .i64 a0_4, .slice A0_5 l0_5.length c0_5, .slice A0_6 l0_6.length c0_6, .slice A0_7 l0_7.length c0_7, .slice A0_8 l0_8.length c0_8] 41 (0, 0)) (by (with_reducible repeat (first | refine blk_drewN ?_ _ | refine blk_drew ?_ | refine blk_alloc ?_ _)); exact BK203.out) hb); have n1_ := Aside0.mk (below_step (by repeat (first | (with_reducible first | exact HB.out | apply below_alloc | apply pw_below_drewN | apply below_drew1 | refine below_set ?_ GE203.out) | exact HB.out)) hb); clear BK203; clear HB; have BK203 := n0_; have HB := n1_; clear n0_ n1_; (try clear hb); (try clear hb2); (try clear hk); (try clear hi)))
        go_meet
        case rel => exact ⟨_, (true), (by first | rfl | (simp; done) | (simp [*]; done)), H', ⟨by first | omega | exact Nat.le_refl _⟩, ⟨by (with_reducible repeat (first | refine blk_drewN ?_ _ | refine blk_drew ?_ | refine blk_alloc ?_ _)); exact BK203.out⟩, ⟨by repeat (first | (with_reducible first | exact HB.out | apply below_alloc | apply pw_below_drewN | apply below_drew1 | refine below_set ?_ GE203.out) | exact HB.out)⟩⟩
    case rest =>
      clear HC4
      try clear c1
      try clear c2
      try clear p2
      try clear c3
      try clear c6
      try clear c8
      try clear c8b0
      try clear c8b1
      try clear c10
      try clear c18
      try clear c21
      try clear hcz12_0
      try clear hcz12_1
      try clear hcz12_2
      try clear hcz12_3
      try clear hcz12_4
      try clear hcz12_5
      try clear hcz12_6
      try clear hcz12_7
      try clear hcz12_8
      try clear hcz14_0
      try clear hcz14_1
      try clear hcz14_2
      try clear hcz14_3
      try clear hcz14_4
      try clear hcz14_5
      try clear hcz14_6
      try clear hcz14_7
      try clear hcz14_8
      try clear hcz16_0
      try clear hcz16_1
      try clear hcz16_2
      try clear hcz16_3
      try clear hcz16_4
      try clear hcz16_5
      try clear hcz16_6
      try clear hcz16_7
      try clear hcz16_8
      try clear hcz18_0
      try clear hcz18_1
      try clear hcz18_2
      try clear hcz18_3
      try clear hcz18_4
      try clear hcz18_5
      try clear hcz18_6
      try clear hcz18_7
      try clear hcz18_8
      try clear hcz20_0
      try clear hcz20_1
      try clear hcz20_2
      try clear hcz20_3
      try clear hcz20_4
      try clear hcz20_5
      try clear hcz20_6
      try clear hcz20_7
      try clear hcz20_8
      try clear hcz22_0
      try clear hcz22_1
      try clear hcz22_2
      try clear hcz22_3
      try clear hcz22_4
      try clear hcz22_5
      try clear hcz22_6
      try clear hcz22_7
      try clear hcz22_8
      try clear hfz12_0
      try clear hfz12_1
      try clear hfz12_2
      try clear hfz12_3
      try clear hfz12_4
      try clear hfz12_5
      try clear hfz12_6
      try clear hfz12_7
      try clear hfz12_8
      try clear hfz14_0
      try clear hfz14_1
      try clear hfz14_2
      try clear hfz14_3
      try clear hfz14_4
      try clear hfz14_5
      try clear hfz14_6
      try clear hfz14_7
      try clear hfz14_8
      try clear hfz16_0
      try clear hfz16_1
      try clear hfz16_2
      try clear hfz16_3
      try clear hfz16_4
      try clear hfz16_5
      try clear hfz16_6
      try clear hfz16_7
      try clear hfz16_8
      try clear hfz18_0
      try clear hfz18_1
      try clear hfz18_2
      try clear hfz18_3
      try clear hfz18_4
      try clear hfz18_5
      try clear hfz18_6
      try clear hfz18_7
      try clear hfz18_8
      try clear hfz20_0
      try clear hfz20_1
      try clear hfz20_2
      try clear hfz20_3
      try clear hfz20_4
      try clear hfz20_5
      try clear hfz20_6
      try clear hfz20_7
      try clear hfz20_8
      try clear hfz22_0
      try clear hfz22_1
      try clear hfz22_2
      try clear hfz22_3
      try clear hfz22_4
      try clear hfz22_5
      try clear hfz22_6
      try clear hfz22_7
      try clear hfz22_8
      obtain ⟨kq, x42_3, rfl, HA, HJ3, BK203, HB⟩ := hcut
      cases kq with
      | zero => exact absurd HA.out (by simp [codewrightlaw51_FlowDuality.j0])
      | succ kj3 =>
        have H := HA.out
        clear HA
        simp only [codewrightlaw51_FlowDuality.j0] at H
        by_cases c24 : x42_3 = true
        · subst c24
          have H1 : (some true) = some r := by rw [if_pos rfl] at H; exact H
          clear H
          have H := H1
          clear H1
          obtain rfl := Option.some.inj H
          go_wp2
          go_ret
          exact ⟨by first | rfl | (simp [errW_none, errW_some] <;> rfl) | (simp [*, errW_none, errW_some] <;> rfl), by repeat (first | (with_reducible first | exact HB.out | apply below_alloc | apply pw_below_drewN | apply below_drew1 | refine below_set ?_ GE203.out) | exact HB.out)⟩
        · replace c24 := Bool.eq_false_iff.mpr c24
          subst c24
          have H1 : ((flow_Value.f kj3 a0_0 l0_1 l0_7 a0_2).bind fun bt208 => ((flow_Value.f kj3 a0_0 l0_1 l0_7 a0_3).bind fun bt210 => ((flow_Cut.f kj3 a0_0 l0_1 l0_8).bind fun bt212 => (if bt208.2 = 0 then (if bt210.2 = 0 then (if bt212.2 = 0 then (if bt208.1 ≤ bt212.1 then (some (bt208.1 == (wrap64 (-bt210.1)))) else (some false)) else (some false)) else (some false)) else (some false))))) = some r := by rw [if_neg (show ¬ (false = true) by decide)] at H; exact H
          clear H
          have H := H1
          clear H1
          replace H := Option.bind_eq_some_iff.mp H
          obtain ⟨⟨t208, t209⟩, A250, H⟩ := H
          replace H : ((flow_Value.f kj3 a0_0 l0_1 l0_7 a0_3).bind fun bt210 => ((flow_Cut.f kj3 a0_0 l0_1 l0_8).bind fun bt212 => (if t209 = 0 then (if bt210.2 = 0 then (if bt212.2 = 0 then (if t208 ≤ bt212.1 then (some (t208 == (wrap64 (-bt210.1)))) else (some false)) else (some false)) else (some false)) else (some false)))) = some r := H
          have A25 := Aside0.mk A250
          clear A250
          replace H := Option.bind_eq_some_iff.mp H
          obtain ⟨⟨t210, t211⟩, A260, H⟩ := H
          replace H : ((flow_Cut.f kj3 a0_0 l0_1 l0_8).bind fun bt212 => (if t209 = 0 then (if t211 = 0 then (if bt212.2 = 0 then (if t208 ≤ bt212.1 then (some (t208 == (wrap64 (-t210)))) else (some false)) else (some false)) else (some false)) else (some false))) = some r := H
          have A26 := Aside0.mk A260
          clear A260
          replace H := Option.bind_eq_some_iff.mp H
          obtain ⟨⟨t212, t213⟩, A270, H⟩ := H
          replace H : (if t209 = 0 then (if t211 = 0 then (if t213 = 0 then (if t208 ≤ t212 then (some (t208 == (wrap64 (-t210)))) else (some false)) else (some false)) else (some false)) else (some false)) = some r := H
          have A27 := Aside0.mk A270
          clear A270
          by_cases c28 : t209 = 0
          · rw [if_pos c28] at H
            have c28b0 : (t209 == 0) = true := beq_iff_eq.mpr c28
            have c28b1 : (t209 != 0) = false := bne_eq_false_iff_eq.mpr c28
            clear c28
            by_cases c29 : t211 = 0
            · rw [if_pos c29] at H
              have c29b0 : (t211 == 0) = true := beq_iff_eq.mpr c29
              have c29b1 : (t211 != 0) = false := bne_eq_false_iff_eq.mpr c29
              clear c29
              by_cases c30 : t213 = 0
              · rw [if_pos c30] at H
                have c30b0 : (t213 == 0) = true := beq_iff_eq.mpr c30
                have c30b1 : (t213 != 0) = false := bne_eq_false_iff_eq.mpr c30
                clear c30
                by_cases c31 : t208 ≤ t212
                · rw [if_pos c31] at H
                  have c31b0 : decide (t208 ≤ t212) = true := decide_eq_true c31
                  clear c31
                  obtain rfl := Option.some.inj H
                  have hcz32_0 : wc.cell? ⟨gb203, 0, none⟩ = some (.int .i64 a0_0) := (blk_cell BK203.out 0).trans rfl
                  have hcz32_1 : wc.cell? ⟨gb203, 1, none⟩ = some (.slice A0_1 l0_1.length c0_1) := (blk_cell BK203.out 1).trans rfl
                  have hcz32_2 : wc.cell? ⟨gb203, 2, none⟩ = some (.int .i64 a0_2) := (blk_cell BK203.out 2).trans rfl
                  have hcz32_3 : wc.cell? ⟨gb203, 3, none⟩ = some (.int .i64 a0_3) := (blk_cell BK203.out 3).trans rfl
                  have hcz32_4 : wc.cell? ⟨gb203, 4, none⟩ = some (.int .i64 a0_4) := (blk_cell BK203.out 4).trans rfl
                  have hcz32_5 : wc.cell? ⟨gb203, 5, none⟩ = some (.slice A0_5 l0_5.length c0_5) := (blk_cell BK203.out 5).trans rfl
                  have hcz32_6 : wc.cell? ⟨gb203, 6, none⟩ = some (.slice A0_6 l0_6.length c0_6) := (blk_cell BK203.out 6).trans rfl
                  have hcz32_7 : wc.cell? ⟨gb203, 7, none⟩ = some (.slice A0_7 l0_7.length c0_7) := (blk_cell BK203.out 7).trans rfl
                  have hcz32_8 : wc.cell? ⟨gb203, 8, none⟩ = some (.slice A0_8 l0_8.length c0_8) := (blk_cell BK203.out 8).trans rfl
                  have hfz32_0 := blk_frozen BK203.out 0
                  have hfz32_1 := blk_frozen BK203.out 1
                  have hfz32_2 := blk_frozen BK203.out 2
                  have hfz32_3 := blk_frozen BK203.out 3
                  have hfz32_4 := blk_frozen BK203.out 4
                  have hfz32_5 := blk_frozen BK203.out 5
                  have hfz32_6 := blk_frozen BK203.out 6
                  have hfz32_7 := blk_frozen BK203.out 7
                  have hfz32_8 := blk_frozen BK203.out 8
                  go_wp2_with (first | ((with_reducible refine gate_callee (f := 19) rfl ?_); refine goesL_ (some 50) rfl rfl Try.func19 (by kernel_rfl) rfl #[.agg #[.int .i64 a0_0, .slice A0_1 l0_1.length c0_1], .slice A0_7 l0_7.length c0_7, .int .i64 a0_2] rfl (by (try simp only [List.map_toArray, List.map_cons, List.map_nil]); first | done | rfl | (simp only [List.length_drop, List.length_take]; rfl)) ?_; (with_reducible refine (flow_Value.calls kj3 a0_0 _ _ l0_1 _ _ l0_7 a0_2 t208 t209 _ ?side1 ?side2 ?side3 ?side4 A25.out).mono ?_); (case side1 => repeat (first | exact (Kd.C_below HR0_1.out HB.out) | (with_reducible refine Kd.C_alloc ?_ _) | (with_reducible refine Kd.C_drewN ?_ _) | (with_reducible refine Kd.C_drew ?_))); (case side2 => exact HC0_1.out); (case side3 => repeat (first | exact (Kd.C_below HR0_7.out HB.out) | (with_reducible refine Kd.C_alloc ?_ _) | (with_reducible refine Kd.C_drewN ?_ _) | (with_reducible refine Kd.C_drew ?_))); (case side4 => exact HC0_7.out); rintro e w33 ⟨rfl, hb⟩; refine ⟨_, rfl, ?_⟩; have n0_ := Aside0.mk (blk_below (g := gb203) (o := .cells #[.int .i64 a0_0, .slice A0_1 l0_1.length c0_1, .int .i64 a0_2, .int .i64 a0_3, .int .i64 a0_4, .slice A0_5 l0_5.length c0_5, .slice A0_6 l0_6.length c0_6, .slice A0_7 l0_7.length c0_7, .slice A0_8 l0_8.length c0_8] 41 (0, 0)) (by (with_reducible repeat (first | refine blk_drewN ?_ _ | refine blk_drew ?_ | refine blk_alloc ?_ _)); exact BK203.out) hb); have n1_ := Aside0.mk (below_step (by repeat (first | (with_reducible first | exact HB.out | apply below_alloc | apply pw_below_drewN | apply below_drew1 | refine below_set ?_ GE203.out) | exact HB.out)) hb); clear BK203; clear HB; have BK203 := n0_; have HB := n1_; clear n0_ n1_; (try clear hb); (try clear hb2); (try clear hk); (try clear hi); have hcz34_0 : w33.cell? ⟨gb203, 0, none⟩ = some (.int .i64 a0_0) := (blk_cell BK203.out 0).trans rfl; have hcz34_1 : w33.cell? ⟨gb203, 1, none⟩ = some (.slice A0_1 l0_1.length c0_1) := (blk_cell BK203.out 1).trans rfl; have hcz34_2 : w33.cell? ⟨gb203, 2, none⟩ = some (.int .i64 a0_2) := (blk_cell BK203.out 2).trans rfl; have hcz34_3 : w33.cell? ⟨gb203, 3, none⟩ = some (.int .i64 a0_3) := (blk_cell BK203.out 3).trans rfl; have hcz34_4 : w33.cell? ⟨gb203, 4, none⟩ = some (.int .i64 a0_4) := (blk_cell BK203.out 4).trans rfl; have hcz34_5 : w33.cell? ⟨gb203, 5, none⟩ = some (.slice A0_5 l0_5.length c0_5) := (blk_cell BK203.out 5).trans rfl; have hcz34_6 : w33.cell? ⟨gb203, 6, none⟩ = some (.slice A0_6 l0_6.length c0_6) := (blk_cell BK203.out 6).trans rfl; have hcz34_7 : w33.cell? ⟨gb203, 7, none⟩ = some (.slice A0_7 l0_7.length c0_7) := (blk_cell BK203.out 7).trans rfl; have hcz34_8 : w33.cell? ⟨gb203, 8, none⟩ = some (.slice A0_8 l0_8.length c0_8) := (blk_cell BK203.out 8).trans rfl; have hfz34_0 := blk_frozen BK203.out 0; have hfz34_1 := blk_frozen BK203.out 1; have hfz34_2 := blk_frozen BK203.out 2; have hfz34_3 := blk_frozen BK203.out 3; have hfz34_4 := blk_frozen BK203.out 4; have hfz34_5 := blk_frozen BK203.out 5; have hfz34_6 := blk_frozen BK203.out 6; have hfz34_7 := blk_frozen BK203.out 7; have hfz34_8 := blk_frozen BK203.out 8) | ((with_reducible refine gate_callee (f := 19) rfl ?_); refine goesL_ (some 60) rfl rfl Try.func19 (by kernel_rfl) rfl #[.agg #[.int .i64 a0_0, .slice A0_1 l0_1.length c0_1], .slice A0_7 l0_7.length c0_7, .int .i64 a0_3] rfl (by (try simp only [List.map_toArray, List.map_cons, List.map_nil]); first | done | rfl | (simp only [List.length_drop, List.length_take]; rfl)) ?_; (with_reducible refine (flow_Value.calls kj3 a0_0 _ _ l0_1 _ _ l0_7 a0_3 t210 t211 _ ?side1 ?side2 ?side3 ?side4 A26.out).mono ?_); (case side1 => repeat (first | exact (Kd.C_below HR0_1.out HB.out) | (with_reducible refine Kd.C_alloc ?_ _) | (with_reducible refine Kd.C_drewN ?_ _) | (with_reducible refine Kd.C_drew ?_))); (case side2 => exact HC0_1.out); (case side3 => repeat (first | exact (Kd.C_below HR0_7.out HB.out) | (with_reducible refine Kd.C_alloc ?_ _) | (with_reducible refine Kd.C_drewN ?_ _) | (with_reducible refine Kd.C_drew ?_))); (case side4 => exact HC0_7.out); rintro e w35 ⟨rfl, hb⟩; refine ⟨_, rfl, ?_⟩; have n0_ := Aside0.mk (blk_below (g := gb203) (o := .cells #[.int .i64 a0_0, .slice A0_1 l0_1.length c0_1, .int .i64 a0_2, .int .i64 a0_3, .int .i64 a0_4, .slice A0_5 l0_5.length c0_5, .slice A0_6 l0_6.length c0_6, .slice A0_7 l0_7.length c0_7, .slice A0_8 l0_8.length c0_8] 41 (0, 0)) (by (with_reducible repeat (first | refine blk_drewN ?_ _ | refine blk_drew ?_ | refine blk_alloc ?_ _)); exact BK203.out) hb); have n1_ := Aside0.mk (below_step (by repeat (first | (with_reducible first | exact HB.out | apply below_alloc | apply pw_below_drewN | apply below_drew1 | refine below_set ?_ GE203.out) | exact HB.out)) hb); clear BK203; clear HB; have BK203 := n0_; have HB := n1_; clear n0_ n1_; (try clear hb); (try clear hb2); (try clear hk); (try clear hi); have hcz36_0 : w35.cell? ⟨gb203, 0, none⟩ = some (.int .i64 a0_0) := (blk_cell BK203.out 0).trans rfl; have hcz36_1 : w35.cell? ⟨gb203, 1, none⟩ = some (.slice A0_1 l0_1.length c0_1) := (blk_cell BK203.out 1).trans rfl; have hcz36_2 : w35.cell? ⟨gb203, 2, none⟩ = some (.int .i64 a0_2) := (blk_cell BK203.out 2).trans rfl; have hcz36_3 : w35.cell? ⟨gb203, 3, none⟩ = some (.int .i64 a0_3) := (blk_cell BK203.out 3).trans rfl; have hcz36_4 : w35.cell? ⟨gb203, 4, none⟩ = some (.int .i64 a0_4) := (blk_cell BK203.out 4).trans rfl; have hcz36_5 : w35.cell? ⟨gb203, 5, none⟩ = some (.slice A0_5 l0_5.length c0_5) := (blk_cell BK203.out 5).trans rfl; have hcz36_6 : w35.cell? ⟨gb203, 6, none⟩ = some (.slice A0_6 l0_6.length c0_6) := (blk_cell BK203.out 6).trans rfl; have hcz36_7 : w35.cell? ⟨gb203, 7, none⟩ = some (.slice A0_7 l0_7.length c0_7) := (blk_cell BK203.out 7).trans rfl; have hcz36_8 : w35.cell? ⟨gb203, 8, none⟩ = some (.slice A0_8 l0_8.length c0_8) := (blk_cell BK203.out 8).trans rfl; have hfz36_0 := blk_frozen BK203.out 0; have hfz36_1 := blk_frozen BK203.out 1; have hfz36_2 := blk_frozen BK203.out 2; have hfz36_3 := blk_frozen BK203.out 3; have hfz36_4 := blk_frozen BK203.out 4; have hfz36_5 := blk_frozen BK203.out 5; have hfz36_6 := blk_frozen BK203.out 6; have hfz36_7 := blk_frozen BK203.out 7; have hfz36_8 := blk_frozen BK203.out 8) | ((with_reducible refine gate_callee (f := 16) rfl ?_); refine goesL_ (some 68) rfl rfl Try.func16 (by kernel_rfl) rfl #[.agg #[.int .i64 a0_0, .slice A0_1 l0_1.length c0_1], .slice A0_8 l0_8.length c0_8] rfl (by (try simp only [List.map_toArray, List.map_cons, List.map_nil]); first | done | rfl | (simp only [List.length_drop, List.length_take]; rfl)) ?_; (with_reducible refine (flow_Cut.calls kj3 a0_0 _ _ l0_1 _ _ l0_8 t212 t213 _ ?side1 ?side2 ?side3 ?side4 A27.out).mono ?_); (case side1 => repeat (first | exact (Kd.C_below HR0_1.out HB.out) | (with_reducible refine Kd.C_alloc ?_ _) | (with_reducible refine Kd.C_drewN ?_ _) | (with_reducible refine Kd.C_drew ?_))); (case side2 => exact HC0_1.out); (case side3 => repeat (first | exact (Kd.C_below HR0_8.out HB.out) | (with_reducible refine Kd.C_alloc ?_ _) | (with_reducible refine Kd.C_drewN ?_ _) | (with_reducible refine Kd.C_drew ?_))); (case side4 => exact HC0_8.out); rintro e w37 ⟨rfl, hb⟩; refine ⟨_, rfl, ?_⟩; have n0_ := Aside0.mk (blk_below (g := gb203) (o := .cells #[.int .i64 a0_0, .slice A0_1 l0_1.length c0_1, .int .i64 a0_2, .int .i64 a0_3, .int .i64 a0_4, .slice A0_5 l0_5.length c0_5, .slice A0_6 l0_6.length c0_6, .slice A0_7 l0_7.length c0_7, .slice A0_8 l0_8.length c0_8] 41 (0, 0)) (by (with_reducible repeat (first | refine blk_drewN ?_ _ | refine blk_drew ?_ | refine blk_alloc ?_ _)); exact BK203.out) hb); have n1_ := Aside0.mk (below_step (by repeat (first | (with_reducible first | exact HB.out | apply below_alloc | apply pw_below_drewN | apply below_drew1 | refine below_set ?_ GE203.out) | exact HB.out)) hb); clear BK203; clear HB; have BK203 := n0_; have HB := n1_; clear n0_ n1_; (try clear hb); (try clear hb2); (try clear hk); (try clear hi)))
                  go_ret
                  exact ⟨by first | rfl | (simp [errW_none, errW_some] <;> rfl) | (simp [*, errW_none, errW_some] <;> rfl), by repeat (first | (with_reducible first | exact HB.out | apply below_alloc | apply pw_below_drewN | apply below_drew1 | refine below_set ?_ GE203.out) | exact HB.out)⟩
                · rw [if_neg c31] at H
                  have c31b0 : decide (t208 ≤ t212) = false := decide_eq_false c31
                  clear c31
                  obtain rfl := Option.some.inj H
                  have hcz38_0 : wc.cell? ⟨gb203, 0, none⟩ = some (.int .i64 a0_0) := (blk_cell BK203.out 0).trans rfl
                  have hcz38_1 : wc.cell? ⟨gb203, 1, none⟩ = some (.slice A0_1 l0_1.length c0_1) := (blk_cell BK203.out 1).trans rfl
                  have hcz38_2 : wc.cell? ⟨gb203, 2, none⟩ = some (.int .i64 a0_2) := (blk_cell BK203.out 2).trans rfl
                  have hcz38_3 : wc.cell? ⟨gb203, 3, none⟩ = some (.int .i64 a0_3) := (blk_cell BK203.out 3).trans rfl
                  have hcz38_4 : wc.cell? ⟨gb203, 4, none⟩ = some (.int .i64 a0_4) := (blk_cell BK203.out 4).trans rfl
                  have hcz38_5 : wc.cell? ⟨gb203, 5, none⟩ = some (.slice A0_5 l0_5.length c0_5) := (blk_cell BK203.out 5).trans rfl
                  have hcz38_6 : wc.cell? ⟨gb203, 6, none⟩ = some (.slice A0_6 l0_6.length c0_6) := (blk_cell BK203.out 6).trans rfl
                  have hcz38_7 : wc.cell? ⟨gb203, 7, none⟩ = some (.slice A0_7 l0_7.length c0_7) := (blk_cell BK203.out 7).trans rfl
                  have hcz38_8 : wc.cell? ⟨gb203, 8, none⟩ = some (.slice A0_8 l0_8.length c0_8) := (blk_cell BK203.out 8).trans rfl
                  have hfz38_0 := blk_frozen BK203.out 0
                  have hfz38_1 := blk_frozen BK203.out 1
                  have hfz38_2 := blk_frozen BK203.out 2
                  have hfz38_3 := blk_frozen BK203.out 3
                  have hfz38_4 := blk_frozen BK203.out 4
                  have hfz38_5 := blk_frozen BK203.out 5
                  have hfz38_6 := blk_frozen BK203.out 6
                  have hfz38_7 := blk_frozen BK203.out 7
                  have hfz38_8 := blk_frozen BK203.out 8
                  go_wp2_with (first | ((with_reducible refine gate_callee (f := 19) rfl ?_); refine goesL_ (some 50) rfl rfl Try.func19 (by kernel_rfl) rfl #[.agg #[.int .i64 a0_0, .slice A0_1 l0_1.length c0_1], .slice A0_7 l0_7.length c0_7, .int .i64 a0_2] rfl (by (try simp only [List.map_toArray, List.map_cons, List.map_nil]); first | done | rfl | (simp only [List.length_drop, List.length_take]; rfl)) ?_; (with_reducible refine (flow_Value.calls kj3 a0_0 _ _ l0_1 _ _ l0_7 a0_2 t208 t209 _ ?side1 ?side2 ?side3 ?side4 A25.out).mono ?_); (case side1 => repeat (first | exact (Kd.C_below HR0_1.out HB.out) | (with_reducible refine Kd.C_alloc ?_ _) | (with_reducible refine Kd.C_drewN ?_ _) | (with_reducible refine Kd.C_drew ?_))); (case side2 => exact HC0_1.out); (case side3 => repeat (first | exact (Kd.C_below HR0_7.out HB.out) | (with_reducible refine Kd.C_alloc ?_ _) | (with_reducible refine Kd.C_drewN ?_ _) | (with_reducible refine Kd.C_drew ?_))); (case side4 => exact HC0_7.out); rintro e w39 ⟨rfl, hb⟩; refine ⟨_, rfl, ?_⟩; have n0_ := Aside0.mk (blk_below (g := gb203) (o := .cells #[.int .i64 a0_0, .slice A0_1 l0_1.length c0_1, .int .i64 a0_2, .int .i64 a0_3, .int .i64 a0_4, .slice A0_5 l0_5.length c0_5, .slice A0_6 l0_6.length c0_6, .slice A0_7 l0_7.length c0_7, .slice A0_8 l0_8.length c0_8] 41 (0, 0)) (by (with_reducible repeat (first | refine blk_drewN ?_ _ | refine blk_drew ?_ | refine blk_alloc ?_ _)); exact BK203.out) hb); have n1_ := Aside0.mk (below_step (by repeat (first | (with_reducible first | exact HB.out | apply below_alloc | apply pw_below_drewN | apply below_drew1 | refine below_set ?_ GE203.out) | exact HB.out)) hb); clear BK203; clear HB; have BK203 := n0_; have HB := n1_; clear n0_ n1_; (try clear hb); (try clear hb2); (try clear hk); (try clear hi); have hcz40_0 : w39.cell? ⟨gb203, 0, none⟩ = some (.int .i64 a0_0) := (blk_cell BK203.out 0).trans rfl; have hcz40_1 : w39.cell? ⟨gb203, 1, none⟩ = some (.slice A0_1 l0_1.length c0_1) := (blk_cell BK203.out 1).trans rfl; have hcz40_2 : w39.cell? ⟨gb203, 2, none⟩ = some (.int .i64 a0_2) := (blk_cell BK203.out 2).trans rfl; have hcz40_3 : w39.cell? ⟨gb203, 3, none⟩ = some (.int .i64 a0_3) := (blk_cell BK203.out 3).trans rfl; have hcz40_4 : w39.cell? ⟨gb203, 4, none⟩ = some (.int .i64 a0_4) := (blk_cell BK203.out 4).trans rfl; have hcz40_5 : w39.cell? ⟨gb203, 5, none⟩ = some (.slice A0_5 l0_5.length c0_5) := (blk_cell BK203.out 5).trans rfl; have hcz40_6 : w39.cell? ⟨gb203, 6, none⟩ = some (.slice A0_6 l0_6.length c0_6) := (blk_cell BK203.out 6).trans rfl; have hcz40_7 : w39.cell? ⟨gb203, 7, none⟩ = some (.slice A0_7 l0_7.length c0_7) := (blk_cell BK203.out 7).trans rfl; have hcz40_8 : w39.cell? ⟨gb203, 8, none⟩ = some (.slice A0_8 l0_8.length c0_8) := (blk_cell BK203.out 8).trans rfl; have hfz40_0 := blk_frozen BK203.out 0; have hfz40_1 := blk_frozen BK203.out 1; have hfz40_2 := blk_frozen BK203.out 2; have hfz40_3 := blk_frozen BK203.out 3; have hfz40_4 := blk_frozen BK203.out 4; have hfz40_5 := blk_frozen BK203.out 5; have hfz40_6 := blk_frozen BK203.out 6; have hfz40_7 := blk_frozen BK203.out 7; have hfz40_8 := blk_frozen BK203.out 8) | ((with_reducible refine gate_callee (f := 19) rfl ?_); refine goesL_ (some 60) rfl rfl Try.func19 (by kernel_rfl) rfl #[.agg #[.int .i64 a0_0, .slice A0_1 l0_1.length c0_1], .slice A0_7 l0_7.length c0_7, .int .i64 a0_3] rfl (by (try simp only [List.map_toArray, List.map_cons, List.map_nil]); first | done | rfl | (simp only [List.length_drop, List.length_take]; rfl)) ?_; (with_reducible refine (flow_Value.calls kj3 a0_0 _ _ l0_1 _ _ l0_7 a0_3 t210 t211 _ ?side1 ?side2 ?side3 ?side4 A26.out).mono ?_); (case side1 => repeat (first | exact (Kd.C_below HR0_1.out HB.out) | (with_reducible refine Kd.C_alloc ?_ _) | (with_reducible refine Kd.C_drewN ?_ _) | (with_reducible refine Kd.C_drew ?_))); (case side2 => exact HC0_1.out); (case side3 => repeat (first | exact (Kd.C_below HR0_7.out HB.out) | (with_reducible refine Kd.C_alloc ?_ _) | (with_reducible refine Kd.C_drewN ?_ _) | (with_reducible refine Kd.C_drew ?_))); (case side4 => exact HC0_7.out); rintro e w41 ⟨rfl, hb⟩; refine ⟨_, rfl, ?_⟩; have n0_ := Aside0.mk (blk_below (g := gb203) (o := .cells #[.int .i64 a0_0, .slice A0_1 l0_1.length c0_1, .int .i64 a0_2, .int .i64 a0_3, .int .i64 a0_4, .slice A0_5 l0_5.length c0_5, .slice A0_6 l0_6.length c0_6, .slice A0_7 l0_7.length c0_7, .slice A0_8 l0_8.length c0_8] 41 (0, 0)) (by (with_reducible repeat (first | refine blk_drewN ?_ _ | refine blk_drew ?_ | refine blk_alloc ?_ _)); exact BK203.out) hb); have n1_ := Aside0.mk (below_step (by repeat (first | (with_reducible first | exact HB.out | apply below_alloc | apply pw_below_drewN | apply below_drew1 | refine below_set ?_ GE203.out) | exact HB.out)) hb); clear BK203; clear HB; have BK203 := n0_; have HB := n1_; clear n0_ n1_; (try clear hb); (try clear hb2); (try clear hk); (try clear hi); have hcz42_0 : w41.cell? ⟨gb203, 0, none⟩ = some (.int .i64 a0_0) := (blk_cell BK203.out 0).trans rfl; have hcz42_1 : w41.cell? ⟨gb203, 1, none⟩ = some (.slice A0_1 l0_1.length c0_1) := (blk_cell BK203.out 1).trans rfl; have hcz42_2 : w41.cell? ⟨gb203, 2, none⟩ = some (.int .i64 a0_2) := (blk_cell BK203.out 2).trans rfl; have hcz42_3 : w41.cell? ⟨gb203, 3, none⟩ = some (.int .i64 a0_3) := (blk_cell BK203.out 3).trans rfl; have hcz42_4 : w41.cell? ⟨gb203, 4, none⟩ = some (.int .i64 a0_4) := (blk_cell BK203.out 4).trans rfl; have hcz42_5 : w41.cell? ⟨gb203, 5, none⟩ = some (.slice A0_5 l0_5.length c0_5) := (blk_cell BK203.out 5).trans rfl; have hcz42_6 : w41.cell? ⟨gb203, 6, none⟩ = some (.slice A0_6 l0_6.length c0_6) := (blk_cell BK203.out 6).trans rfl; have hcz42_7 : w41.cell? ⟨gb203, 7, none⟩ = some (.slice A0_7 l0_7.length c0_7) := (blk_cell BK203.out 7).trans rfl; have hcz42_8 : w41.cell? ⟨gb203, 8, none⟩ = some (.slice A0_8 l0_8.length c0_8) := (blk_cell BK203.out 8).trans rfl; have hfz42_0 := blk_frozen BK203.out 0; have hfz42_1 := blk_frozen BK203.out 1; have hfz42_2 := blk_frozen BK203.out 2; have hfz42_3 := blk_frozen BK203.out 3; have hfz42_4 := blk_frozen BK203.out 4; have hfz42_5 := blk_frozen BK203.out 5; have hfz42_6 := blk_frozen BK203.out 6; have hfz42_7 := blk_frozen BK203.out 7; have hfz42_8 := blk_frozen BK203.out 8) | ((with_reducible refine gate_callee (f := 16) rfl ?_); refine goesL_ (some 68) rfl rfl Try.func16 (by kernel_rfl) rfl #[.agg #[.int .i64 a0_0, .slice A0_1 l0_1.length c0_1], .slice A0_8 l0_8.length c0_8] rfl (by (try simp only [List.map_toArray, List.map_cons, List.map_nil]); first | done | rfl | (simp only [List.length_drop, List.length_take]; rfl)) ?_; (with_reducible refine (flow_Cut.calls kj3 a0_0 _ _ l0_1 _ _ l0_8 t212 t213 _ ?side1 ?side2 ?side3 ?side4 A27.out).mono ?_); (case side1 => repeat (first | exact (Kd.C_below HR0_1.out HB.out) | (with_reducible refine Kd.C_alloc ?_ _) | (with_reducible refine Kd.C_drewN ?_ _) | (with_reducible refine Kd.C_drew ?_))); (case side2 => exact HC0_1.out); (case side3 => repeat (first | exact (Kd.C_below HR0_8.out HB.out) | (with_reducible refine Kd.C_alloc ?_ _) | (with_reducible refine Kd.C_drewN ?_ _) | (with_reducible refine Kd.C_drew ?_))); (case side4 => exact HC0_8.out); rintro e w43 ⟨rfl, hb⟩; refine ⟨_, rfl, ?_⟩; have n0_ := Aside0.mk (blk_below (g := gb203) (o := .cells #[.int .i64 a0_0, .slice A0_1 l0_1.length c0_1, .int .i64 a0_2, .int .i64 a0_3, .int .i64 a0_4, .slice A0_5 l0_5.length c0_5, .slice A0_6 l0_6.length c0_6, .slice A0_7 l0_7.length c0_7, .slice A0_8 l0_8.length c0_8] 41 (0, 0)) (by (with_reducible repeat (first | refine blk_drewN ?_ _ | refine blk_drew ?_ | refine blk_alloc ?_ _)); exact BK203.out) hb); have n1_ := Aside0.mk (below_step (by repeat (first | (with_reducible first | exact HB.out | apply below_alloc | apply pw_below_drewN | apply below_drew1 | refine below_set ?_ GE203.out) | exact HB.out)) hb); clear BK203; clear HB; have BK203 := n0_; have HB := n1_; clear n0_ n1_; (try clear hb); (try clear hb2); (try clear hk); (try clear hi)))
                  go_ret
                  exact ⟨by first | rfl | (simp [errW_none, errW_some] <;> rfl) | (simp [*, errW_none, errW_some] <;> rfl), by repeat (first | (with_reducible first | exact HB.out | apply below_alloc | apply pw_below_drewN | apply below_drew1 | refine below_set ?_ GE203.out) | exact HB.out)⟩
              · rw [if_neg c30] at H
                have c30b0 : (t213 == 0) = false := beq_eq_false_iff_ne.mpr c30
                have c30b1 : (t213 != 0) = true := bne_iff_ne.mpr c30
                obtain rfl := Option.some.inj H
                have hcz44_0 : wc.cell? ⟨gb203, 0, none⟩ = some (.int .i64 a0_0) := (blk_cell BK203.out 0).trans rfl
                have hcz44_1 : wc.cell? ⟨gb203, 1, none⟩ = some (.slice A0_1 l0_1.length c0_1) := (blk_cell BK203.out 1).trans rfl
                have hcz44_2 : wc.cell? ⟨gb203, 2, none⟩ = some (.int .i64 a0_2) := (blk_cell BK203.out 2).trans rfl
                have hcz44_3 : wc.cell? ⟨gb203, 3, none⟩ = some (.int .i64 a0_3) := (blk_cell BK203.out 3).trans rfl
                have hcz44_4 : wc.cell? ⟨gb203, 4, none⟩ = some (.int .i64 a0_4) := (blk_cell BK203.out 4).trans rfl
                have hcz44_5 : wc.cell? ⟨gb203, 5, none⟩ = some (.slice A0_5 l0_5.length c0_5) := (blk_cell BK203.out 5).trans rfl
                have hcz44_6 : wc.cell? ⟨gb203, 6, none⟩ = some (.slice A0_6 l0_6.length c0_6) := (blk_cell BK203.out 6).trans rfl
                have hcz44_7 : wc.cell? ⟨gb203, 7, none⟩ = some (.slice A0_7 l0_7.length c0_7) := (blk_cell BK203.out 7).trans rfl
                have hcz44_8 : wc.cell? ⟨gb203, 8, none⟩ = some (.slice A0_8 l0_8.length c0_8) := (blk_cell BK203.out 8).trans rfl
                have hfz44_0 := blk_frozen BK203.out 0
                have hfz44_1 := blk_frozen BK203.out 1
                have hfz44_2 := blk_frozen BK203.out 2
                have hfz44_3 := blk_frozen BK203.out 3
                have hfz44_4 := blk_frozen BK203.out 4
                have hfz44_5 := blk_frozen BK203.out 5
                have hfz44_6 := blk_frozen BK203.out 6
                have hfz44_7 := blk_frozen BK203.out 7
                have hfz44_8 := blk_frozen BK203.out 8
                go_wp2_with (first | ((with_reducible refine gate_callee (f := 19) rfl ?_); refine goesL_ (some 50) rfl rfl Try.func19 (by kernel_rfl) rfl #[.agg #[.int .i64 a0_0, .slice A0_1 l0_1.length c0_1], .slice A0_7 l0_7.length c0_7, .int .i64 a0_2] rfl (by (try simp only [List.map_toArray, List.map_cons, List.map_nil]); first | done | rfl | (simp only [List.length_drop, List.length_take]; rfl)) ?_; (with_reducible refine (flow_Value.calls kj3 a0_0 _ _ l0_1 _ _ l0_7 a0_2 t208 t209 _ ?side1 ?side2 ?side3 ?side4 A25.out).mono ?_); (case side1 => repeat (first | exact (Kd.C_below HR0_1.out HB.out) | (with_reducible refine Kd.C_alloc ?_ _) | (with_reducible refine Kd.C_drewN ?_ _) | (with_reducible refine Kd.C_drew ?_))); (case side2 => exact HC0_1.out); (case side3 => repeat (first | exact (Kd.C_below HR0_7.out HB.out) | (with_reducible refine Kd.C_alloc ?_ _) | (with_reducible refine Kd.C_drewN ?_ _) | (with_reducible refine Kd.C_drew ?_))); (case side4 => exact HC0_7.out); rintro e w45 ⟨rfl, hb⟩; refine ⟨_, rfl, ?_⟩; have n0_ := Aside0.mk (blk_below (g := gb203) (o := .cells #[.int .i64 a0_0, .slice A0_1 l0_1.length c0_1, .int .i64 a0_2, .int .i64 a0_3, .int .i64 a0_4, .slice A0_5 l0_5.length c0_5, .slice A0_6 l0_6.length c0_6, .slice A0_7 l0_7.length c0_7, .slice A0_8 l0_8.length c0_8] 41 (0, 0)) (by (with_reducible repeat (first | refine blk_drewN ?_ _ | refine blk_drew ?_ | refine blk_alloc ?_ _)); exact BK203.out) hb); have n1_ := Aside0.mk (below_step (by repeat (first | (with_reducible first | exact HB.out | apply below_alloc | apply pw_below_drewN | apply below_drew1 | refine below_set ?_ GE203.out) | exact HB.out)) hb); clear BK203; clear HB; have BK203 := n0_; have HB := n1_; clear n0_ n1_; (try clear hb); (try clear hb2); (try clear hk); (try clear hi); have hcz46_0 : w45.cell? ⟨gb203, 0, none⟩ = some (.int .i64 a0_0) := (blk_cell BK203.out 0).trans rfl; have hcz46_1 : w45.cell? ⟨gb203, 1, none⟩ = some (.slice A0_1 l0_1.length c0_1) := (blk_cell BK203.out 1).trans rfl; have hcz46_2 : w45.cell? ⟨gb203, 2, none⟩ = some (.int .i64 a0_2) := (blk_cell BK203.out 2).trans rfl; have hcz46_3 : w45.cell? ⟨gb203, 3, none⟩ = some (.int .i64 a0_3) := (blk_cell BK203.out 3).trans rfl; have hcz46_4 : w45.cell? ⟨gb203, 4, none⟩ = some (.int .i64 a0_4) := (blk_cell BK203.out 4).trans rfl; have hcz46_5 : w45.cell? ⟨gb203, 5, none⟩ = some (.slice A0_5 l0_5.length c0_5) := (blk_cell BK203.out 5).trans rfl; have hcz46_6 : w45.cell? ⟨gb203, 6, none⟩ = some (.slice A0_6 l0_6.length c0_6) := (blk_cell BK203.out 6).trans rfl; have hcz46_7 : w45.cell? ⟨gb203, 7, none⟩ = some (.slice A0_7 l0_7.length c0_7) := (blk_cell BK203.out 7).trans rfl; have hcz46_8 : w45.cell? ⟨gb203, 8, none⟩ = some (.slice A0_8 l0_8.length c0_8) := (blk_cell BK203.out 8).trans rfl; have hfz46_0 := blk_frozen BK203.out 0; have hfz46_1 := blk_frozen BK203.out 1; have hfz46_2 := blk_frozen BK203.out 2; have hfz46_3 := blk_frozen BK203.out 3; have hfz46_4 := blk_frozen BK203.out 4; have hfz46_5 := blk_frozen BK203.out 5; have hfz46_6 := blk_frozen BK203.out 6; have hfz46_7 := blk_frozen BK203.out 7; have hfz46_8 := blk_frozen BK203.out 8) | ((with_reducible refine gate_callee (f := 19) rfl ?_); refine goesL_ (some 60) rfl rfl Try.func19 (by kernel_rfl) rfl #[.agg #[.int .i64 a0_0, .slice A0_1 l0_1.length c0_1], .slice A0_7 l0_7.length c0_7, .int .i64 a0_3] rfl (by (try simp only [List.map_toArray, List.map_cons, List.map_nil]); first | done | rfl | (simp only [List.length_drop, List.length_take]; rfl)) ?_; (with_reducible refine (flow_Value.calls kj3 a0_0 _ _ l0_1 _ _ l0_7 a0_3 t210 t211 _ ?side1 ?side2 ?side3 ?side4 A26.out).mono ?_); (case side1 => repeat (first | exact (Kd.C_below HR0_1.out HB.out) | (with_reducible refine Kd.C_alloc ?_ _) | (with_reducible refine Kd.C_drewN ?_ _) | (with_reducible refine Kd.C_drew ?_))); (case side2 => exact HC0_1.out); (case side3 => repeat (first | exact (Kd.C_below HR0_7.out HB.out) | (with_reducible refine Kd.C_alloc ?_ _) | (with_reducible refine Kd.C_drewN ?_ _) | (with_reducible refine Kd.C_drew ?_))); (case side4 => exact HC0_7.out); rintro e w47 ⟨rfl, hb⟩; refine ⟨_, rfl, ?_⟩; have n0_ := Aside0.mk (blk_below (g := gb203) (o := .cells #[.int .i64 a0_0, .slice A0_1 l0_1.length c0_1, .int .i64 a0_2, .int .i64 a0_3, .int .i64 a0_4, .slice A0_5 l0_5.length c0_5, .slice A0_6 l0_6.length c0_6, .slice A0_7 l0_7.length c0_7, .slice A0_8 l0_8.length c0_8] 41 (0, 0)) (by (with_reducible repeat (first | refine blk_drewN ?_ _ | refine blk_drew ?_ | refine blk_alloc ?_ _)); exact BK203.out) hb); have n1_ := Aside0.mk (below_step (by repeat (first | (with_reducible first | exact HB.out | apply below_alloc | apply pw_below_drewN | apply below_drew1 | refine below_set ?_ GE203.out) | exact HB.out)) hb); clear BK203; clear HB; have BK203 := n0_; have HB := n1_; clear n0_ n1_; (try clear hb); (try clear hb2); (try clear hk); (try clear hi); have hcz48_0 : w47.cell? ⟨gb203, 0, none⟩ = some (.int .i64 a0_0) := (blk_cell BK203.out 0).trans rfl; have hcz48_1 : w47.cell? ⟨gb203, 1, none⟩ = some (.slice A0_1 l0_1.length c0_1) := (blk_cell BK203.out 1).trans rfl; have hcz48_2 : w47.cell? ⟨gb203, 2, none⟩ = some (.int .i64 a0_2) := (blk_cell BK203.out 2).trans rfl; have hcz48_3 : w47.cell? ⟨gb203, 3, none⟩ = some (.int .i64 a0_3) := (blk_cell BK203.out 3).trans rfl; have hcz48_4 : w47.cell? ⟨gb203, 4, none⟩ = some (.int .i64 a0_4) := (blk_cell BK203.out 4).trans rfl; have hcz48_5 : w47.cell? ⟨gb203, 5, none⟩ = some (.slice A0_5 l0_5.length c0_5) := (blk_cell BK203.out 5).trans rfl; have hcz48_6 : w47.cell? ⟨gb203, 6, none⟩ = some (.slice A0_6 l0_6.length c0_6) := (blk_cell BK203.out 6).trans rfl; have hcz48_7 : w47.cell? ⟨gb203, 7, none⟩ = some (.slice A0_7 l0_7.length c0_7) := (blk_cell BK203.out 7).trans rfl; have hcz48_8 : w47.cell? ⟨gb203, 8, none⟩ = some (.slice A0_8 l0_8.length c0_8) := (blk_cell BK203.out 8).trans rfl; have hfz48_0 := blk_frozen BK203.out 0; have hfz48_1 := blk_frozen BK203.out 1; have hfz48_2 := blk_frozen BK203.out 2; have hfz48_3 := blk_frozen BK203.out 3; have hfz48_4 := blk_frozen BK203.out 4; have hfz48_5 := blk_frozen BK203.out 5; have hfz48_6 := blk_frozen BK203.out 6; have hfz48_7 := blk_frozen BK203.out 7; have hfz48_8 := blk_frozen BK203.out 8) | ((with_reducible refine gate_callee (f := 16) rfl ?_); refine goesL_ (some 68) rfl rfl Try.func16 (by kernel_rfl) rfl #[.agg #[.int .i64 a0_0, .slice A0_1 l0_1.length c0_1], .slice A0_8 l0_8.length c0_8] rfl (by (try simp only [List.map_toArray, List.map_cons, List.map_nil]); first | done | rfl | (simp only [List.length_drop, List.length_take]; rfl)) ?_; (with_reducible refine (flow_Cut.calls kj3 a0_0 _ _ l0_1 _ _ l0_8 t212 t213 _ ?side1 ?side2 ?side3 ?side4 A27.out).mono ?_); (case side1 => repeat (first | exact (Kd.C_below HR0_1.out HB.out) | (with_reducible refine Kd.C_alloc ?_ _) | (with_reducible refine Kd.C_drewN ?_ _) | (with_reducible refine Kd.C_drew ?_))); (case side2 => exact HC0_1.out); (case side3 => repeat (first | exact (Kd.C_below HR0_8.out HB.out) | (with_reducible refine Kd.C_alloc ?_ _) | (with_reducible refine Kd.C_drewN ?_ _) | (with_reducible refine Kd.C_drew ?_))); (case side4 => exact HC0_8.out); rintro e w49 ⟨rfl, hb⟩; refine ⟨_, rfl, ?_⟩; have n0_ := Aside0.mk (blk_below (g := gb203) (o := .cells #[.int .i64 a0_0, .slice A0_1 l0_1.length c0_1, .int .i64 a0_2, .int .i64 a0_3, .int .i64 a0_4, .slice A0_5 l0_5.length c0_5, .slice A0_6 l0_6.length c0_6, .slice A0_7 l0_7.length c0_7, .slice A0_8 l0_8.length c0_8] 41 (0, 0)) (by (with_reducible repeat (first | refine blk_drewN ?_ _ | refine blk_drew ?_ | refine blk_alloc ?_ _)); exact BK203.out) hb); have n1_ := Aside0.mk (below_step (by repeat (first | (with_reducible first | exact HB.out | apply below_alloc | apply pw_below_drewN | apply below_drew1 | refine below_set ?_ GE203.out) | exact HB.out)) hb); clear BK203; clear HB; have BK203 := n0_; have HB := n1_; clear n0_ n1_; (try clear hb); (try clear hb2); (try clear hk); (try clear hi)))
                go_ret
                exact ⟨by first | rfl | (simp [errW_none, errW_some] <;> rfl) | (simp [*, errW_none, errW_some] <;> rfl), by repeat (first | (with_reducible first | exact HB.out | apply below_alloc | apply pw_below_drewN | apply below_drew1 | refine below_set ?_ GE203.out) | exact HB.out)⟩
            · rw [if_neg c29] at H
              have c29b0 : (t211 == 0) = false := beq_eq_false_iff_ne.mpr c29
              have c29b1 : (t211 != 0) = true := bne_iff_ne.mpr c29
              obtain rfl := Option.some.inj H
              have hcz50_0 : wc.cell? ⟨gb203, 0, none⟩ = some (.int .i64 a0_0) := (blk_cell BK203.out 0).trans rfl
              have hcz50_1 : wc.cell? ⟨gb203, 1, none⟩ = some (.slice A0_1 l0_1.length c0_1) := (blk_cell BK203.out 1).trans rfl
              have hcz50_2 : wc.cell? ⟨gb203, 2, none⟩ = some (.int .i64 a0_2) := (blk_cell BK203.out 2).trans rfl
              have hcz50_3 : wc.cell? ⟨gb203, 3, none⟩ = some (.int .i64 a0_3) := (blk_cell BK203.out 3).trans rfl
              have hcz50_4 : wc.cell? ⟨gb203, 4, none⟩ = some (.int .i64 a0_4) := (blk_cell BK203.out 4).trans rfl
              have hcz50_5 : wc.cell? ⟨gb203, 5, none⟩ = some (.slice A0_5 l0_5.length c0_5) := (blk_cell BK203.out 5).trans rfl
              have hcz50_6 : wc.cell? ⟨gb203, 6, none⟩ = some (.slice A0_6 l0_6.length c0_6) := (blk_cell BK203.out 6).trans rfl
              have hcz50_7 : wc.cell? ⟨gb203, 7, none⟩ = some (.slice A0_7 l0_7.length c0_7) := (blk_cell BK203.out 7).trans rfl
              have hcz50_8 : wc.cell? ⟨gb203, 8, none⟩ = some (.slice A0_8 l0_8.length c0_8) := (blk_cell BK203.out 8).trans rfl
              have hfz50_0 := blk_frozen BK203.out 0
              have hfz50_1 := blk_frozen BK203.out 1
              have hfz50_2 := blk_frozen BK203.out 2
              have hfz50_3 := blk_frozen BK203.out 3
              have hfz50_4 := blk_frozen BK203.out 4
              have hfz50_5 := blk_frozen BK203.out 5
              have hfz50_6 := blk_frozen BK203.out 6
              have hfz50_7 := blk_frozen BK203.out 7
              have hfz50_8 := blk_frozen BK203.out 8
              go_wp2_with (first | ((with_reducible refine gate_callee (f := 19) rfl ?_); refine goesL_ (some 50) rfl rfl Try.func19 (by kernel_rfl) rfl #[.agg #[.int .i64 a0_0, .slice A0_1 l0_1.length c0_1], .slice A0_7 l0_7.length c0_7, .int .i64 a0_2] rfl (by (try simp only [List.map_toArray, List.map_cons, List.map_nil]); first | done | rfl | (simp only [List.length_drop, List.length_take]; rfl)) ?_; (with_reducible refine (flow_Value.calls kj3 a0_0 _ _ l0_1 _ _ l0_7 a0_2 t208 t209 _ ?side1 ?side2 ?side3 ?side4 A25.out).mono ?_); (case side1 => repeat (first | exact (Kd.C_below HR0_1.out HB.out) | (with_reducible refine Kd.C_alloc ?_ _) | (with_reducible refine Kd.C_drewN ?_ _) | (with_reducible refine Kd.C_drew ?_))); (case side2 => exact HC0_1.out); (case side3 => repeat (first | exact (Kd.C_below HR0_7.out HB.out) | (with_reducible refine Kd.C_alloc ?_ _) | (with_reducible refine Kd.C_drewN ?_ _) | (with_reducible refine Kd.C_drew ?_))); (case side4 => exact HC0_7.out); rintro e w51 ⟨rfl, hb⟩; refine ⟨_, rfl, ?_⟩; have n0_ := Aside0.mk (blk_below (g := gb203) (o := .cells #[.int .i64 a0_0, .slice A0_1 l0_1.length c0_1, .int .i64 a0_2, .int .i64 a0_3, .int .i64 a0_4, .slice A0_5 l0_5.length c0_5, .slice A0_6 l0_6.length c0_6, .slice A0_7 l0_7.length c0_7, .slice A0_8 l0_8.length c0_8] 41 (0, 0)) (by (with_reducible repeat (first | refine blk_drewN ?_ _ | refine blk_drew ?_ | refine blk_alloc ?_ _)); exact BK203.out) hb); have n1_ := Aside0.mk (below_step (by repeat (first | (with_reducible first | exact HB.out | apply below_alloc | apply pw_below_drewN | apply below_drew1 | refine below_set ?_ GE203.out) | exact HB.out)) hb); clear BK203; clear HB; have BK203 := n0_; have HB := n1_; clear n0_ n1_; (try clear hb); (try clear hb2); (try clear hk); (try clear hi); have hcz52_0 : w51.cell? ⟨gb203, 0, none⟩ = some (.int .i64 a0_0) := (blk_cell BK203.out 0).trans rfl; have hcz52_1 : w51.cell? ⟨gb203, 1, none⟩ = some (.slice A0_1 l0_1.length c0_1) := (blk_cell BK203.out 1).trans rfl; have hcz52_2 : w51.cell? ⟨gb203, 2, none⟩ = some (.int .i64 a0_2) := (blk_cell BK203.out 2).trans rfl; have hcz52_3 : w51.cell? ⟨gb203, 3, none⟩ = some (.int .i64 a0_3) := (blk_cell BK203.out 3).trans rfl; have hcz52_4 : w51.cell? ⟨gb203, 4, none⟩ = some (.int .i64 a0_4) := (blk_cell BK203.out 4).trans rfl; have hcz52_5 : w51.cell? ⟨gb203, 5, none⟩ = some (.slice A0_5 l0_5.length c0_5) := (blk_cell BK203.out 5).trans rfl; have hcz52_6 : w51.cell? ⟨gb203, 6, none⟩ = some (.slice A0_6 l0_6.length c0_6) := (blk_cell BK203.out 6).trans rfl; have hcz52_7 : w51.cell? ⟨gb203, 7, none⟩ = some (.slice A0_7 l0_7.length c0_7) := (blk_cell BK203.out 7).trans rfl; have hcz52_8 : w51.cell? ⟨gb203, 8, none⟩ = some (.slice A0_8 l0_8.length c0_8) := (blk_cell BK203.out 8).trans rfl; have hfz52_0 := blk_frozen BK203.out 0; have hfz52_1 := blk_frozen BK203.out 1; have hfz52_2 := blk_frozen BK203.out 2; have hfz52_3 := blk_frozen BK203.out 3; have hfz52_4 := blk_frozen BK203.out 4; have hfz52_5 := blk_frozen BK203.out 5; have hfz52_6 := blk_frozen BK203.out 6; have hfz52_7 := blk_frozen BK203.out 7; have hfz52_8 := blk_frozen BK203.out 8) | ((with_reducible refine gate_callee (f := 19) rfl ?_); refine goesL_ (some 60) rfl rfl Try.func19 (by kernel_rfl) rfl #[.agg #[.int .i64 a0_0, .slice A0_1 l0_1.length c0_1], .slice A0_7 l0_7.length c0_7, .int .i64 a0_3] rfl (by (try simp only [List.map_toArray, List.map_cons, List.map_nil]); first | done | rfl | (simp only [List.length_drop, List.length_take]; rfl)) ?_; (with_reducible refine (flow_Value.calls kj3 a0_0 _ _ l0_1 _ _ l0_7 a0_3 t210 t211 _ ?side1 ?side2 ?side3 ?side4 A26.out).mono ?_); (case side1 => repeat (first | exact (Kd.C_below HR0_1.out HB.out) | (with_reducible refine Kd.C_alloc ?_ _) | (with_reducible refine Kd.C_drewN ?_ _) | (with_reducible refine Kd.C_drew ?_))); (case side2 => exact HC0_1.out); (case side3 => repeat (first | exact (Kd.C_below HR0_7.out HB.out) | (with_reducible refine Kd.C_alloc ?_ _) | (with_reducible refine Kd.C_drewN ?_ _) | (with_reducible refine Kd.C_drew ?_))); (case side4 => exact HC0_7.out); rintro e w53 ⟨rfl, hb⟩; refine ⟨_, rfl, ?_⟩; have n0_ := Aside0.mk (blk_below (g := gb203) (o := .cells #[.int .i64 a0_0, .slice A0_1 l0_1.length c0_1, .int .i64 a0_2, .int .i64 a0_3, .int .i64 a0_4, .slice A0_5 l0_5.length c0_5, .slice A0_6 l0_6.length c0_6, .slice A0_7 l0_7.length c0_7, .slice A0_8 l0_8.length c0_8] 41 (0, 0)) (by (with_reducible repeat (first | refine blk_drewN ?_ _ | refine blk_drew ?_ | refine blk_alloc ?_ _)); exact BK203.out) hb); have n1_ := Aside0.mk (below_step (by repeat (first | (with_reducible first | exact HB.out | apply below_alloc | apply pw_below_drewN | apply below_drew1 | refine below_set ?_ GE203.out) | exact HB.out)) hb); clear BK203; clear HB; have BK203 := n0_; have HB := n1_; clear n0_ n1_; (try clear hb); (try clear hb2); (try clear hk); (try clear hi); have hcz54_0 : w53.cell? ⟨gb203, 0, none⟩ = some (.int .i64 a0_0) := (blk_cell BK203.out 0).trans rfl; have hcz54_1 : w53.cell? ⟨gb203, 1, none⟩ = some (.slice A0_1 l0_1.length c0_1) := (blk_cell BK203.out 1).trans rfl; have hcz54_2 : w53.cell? ⟨gb203, 2, none⟩ = some (.int .i64 a0_2) := (blk_cell BK203.out 2).trans rfl; have hcz54_3 : w53.cell? ⟨gb203, 3, none⟩ = some (.int .i64 a0_3) := (blk_cell BK203.out 3).trans rfl; have hcz54_4 : w53.cell? ⟨gb203, 4, none⟩ = some (.int .i64 a0_4) := (blk_cell BK203.out 4).trans rfl; have hcz54_5 : w53.cell? ⟨gb203, 5, none⟩ = some (.slice A0_5 l0_5.length c0_5) := (blk_cell BK203.out 5).trans rfl; have hcz54_6 : w53.cell? ⟨gb203, 6, none⟩ = some (.slice A0_6 l0_6.length c0_6) := (blk_cell BK203.out 6).trans rfl; have hcz54_7 : w53.cell? ⟨gb203, 7, none⟩ = some (.slice A0_7 l0_7.length c0_7) := (blk_cell BK203.out 7).trans rfl; have hcz54_8 : w53.cell? ⟨gb203, 8, none⟩ = some (.slice A0_8 l0_8.length c0_8) := (blk_cell BK203.out 8).trans rfl; have hfz54_0 := blk_frozen BK203.out 0; have hfz54_1 := blk_frozen BK203.out 1; have hfz54_2 := blk_frozen BK203.out 2; have hfz54_3 := blk_frozen BK203.out 3; have hfz54_4 := blk_frozen BK203.out 4; have hfz54_5 := blk_frozen BK203.out 5; have hfz54_6 := blk_frozen BK203.out 6; have hfz54_7 := blk_frozen BK203.out 7; have hfz54_8 := blk_frozen BK203.out 8) | ((with_reducible refine gate_callee (f := 16) rfl ?_); refine goesL_ (some 68) rfl rfl Try.func16 (by kernel_rfl) rfl #[.agg #[.int .i64 a0_0, .slice A0_1 l0_1.length c0_1], .slice A0_8 l0_8.length c0_8] rfl (by (try simp only [List.map_toArray, List.map_cons, List.map_nil]); first | done | rfl | (simp only [List.length_drop, List.length_take]; rfl)) ?_; (with_reducible refine (flow_Cut.calls kj3 a0_0 _ _ l0_1 _ _ l0_8 t212 t213 _ ?side1 ?side2 ?side3 ?side4 A27.out).mono ?_); (case side1 => repeat (first | exact (Kd.C_below HR0_1.out HB.out) | (with_reducible refine Kd.C_alloc ?_ _) | (with_reducible refine Kd.C_drewN ?_ _) | (with_reducible refine Kd.C_drew ?_))); (case side2 => exact HC0_1.out); (case side3 => repeat (first | exact (Kd.C_below HR0_8.out HB.out) | (with_reducible refine Kd.C_alloc ?_ _) | (with_reducible refine Kd.C_drewN ?_ _) | (with_reducible refine Kd.C_drew ?_))); (case side4 => exact HC0_8.out); rintro e w55 ⟨rfl, hb⟩; refine ⟨_, rfl, ?_⟩; have n0_ := Aside0.mk (blk_below (g := gb203) (o := .cells #[.int .i64 a0_0, .slice A0_1 l0_1.length c0_1, .int .i64 a0_2, .int .i64 a0_3, .int .i64 a0_4, .slice A0_5 l0_5.length c0_5, .slice A0_6 l0_6.length c0_6, .slice A0_7 l0_7.length c0_7, .slice A0_8 l0_8.length c0_8] 41 (0, 0)) (by (with_reducible repeat (first | refine blk_drewN ?_ _ | refine blk_drew ?_ | refine blk_alloc ?_ _)); exact BK203.out) hb); have n1_ := Aside0.mk (below_step (by repeat (first | (with_reducible first | exact HB.out | apply below_alloc | apply pw_below_drewN | apply below_drew1 | refine below_set ?_ GE203.out) | exact HB.out)) hb); clear BK203; clear HB; have BK203 := n0_; have HB := n1_; clear n0_ n1_; (try clear hb); (try clear hb2); (try clear hk); (try clear hi)))
              go_ret
              exact ⟨by first | rfl | (simp [errW_none, errW_some] <;> rfl) | (simp [*, errW_none, errW_some] <;> rfl), by repeat (first | (with_reducible first | exact HB.out | apply below_alloc | apply pw_below_drewN | apply below_drew1 | refine below_set ?_ GE203.out) | exact HB.out)⟩
          · rw [if_neg c28] at H
            have c28b0 : (t209 == 0) = false := beq_eq_false_iff_ne.mpr c28
            have c28b1 : (t209 != 0) = true := bne_iff_ne.mpr c28
            obtain rfl := Option.some.inj H
            have hcz56_0 : wc.cell? ⟨gb203, 0, none⟩ = some (.int .i64 a0_0) := (blk_cell BK203.out 0).trans rfl
            have hcz56_1 : wc.cell? ⟨gb203, 1, none⟩ = some (.slice A0_1 l0_1.length c0_1) := (blk_cell BK203.out 1).trans rfl
            have hcz56_2 : wc.cell? ⟨gb203, 2, none⟩ = some (.int .i64 a0_2) := (blk_cell BK203.out 2).trans rfl
            have hcz56_3 : wc.cell? ⟨gb203, 3, none⟩ = some (.int .i64 a0_3) := (blk_cell BK203.out 3).trans rfl
            have hcz56_4 : wc.cell? ⟨gb203, 4, none⟩ = some (.int .i64 a0_4) := (blk_cell BK203.out 4).trans rfl
            have hcz56_5 : wc.cell? ⟨gb203, 5, none⟩ = some (.slice A0_5 l0_5.length c0_5) := (blk_cell BK203.out 5).trans rfl
            have hcz56_6 : wc.cell? ⟨gb203, 6, none⟩ = some (.slice A0_6 l0_6.length c0_6) := (blk_cell BK203.out 6).trans rfl
            have hcz56_7 : wc.cell? ⟨gb203, 7, none⟩ = some (.slice A0_7 l0_7.length c0_7) := (blk_cell BK203.out 7).trans rfl
            have hcz56_8 : wc.cell? ⟨gb203, 8, none⟩ = some (.slice A0_8 l0_8.length c0_8) := (blk_cell BK203.out 8).trans rfl
            have hfz56_0 := blk_frozen BK203.out 0
            have hfz56_1 := blk_frozen BK203.out 1
            have hfz56_2 := blk_frozen BK203.out 2
            have hfz56_3 := blk_frozen BK203.out 3
            have hfz56_4 := blk_frozen BK203.out 4
            have hfz56_5 := blk_frozen BK203.out 5
            have hfz56_6 := blk_frozen BK203.out 6
            have hfz56_7 := blk_frozen BK203.out 7
            have hfz56_8 := blk_frozen BK203.out 8
            go_wp2_with (first | ((with_reducible refine gate_callee (f := 19) rfl ?_); refine goesL_ (some 50) rfl rfl Try.func19 (by kernel_rfl) rfl #[.agg #[.int .i64 a0_0, .slice A0_1 l0_1.length c0_1], .slice A0_7 l0_7.length c0_7, .int .i64 a0_2] rfl (by (try simp only [List.map_toArray, List.map_cons, List.map_nil]); first | done | rfl | (simp only [List.length_drop, List.length_take]; rfl)) ?_; (with_reducible refine (flow_Value.calls kj3 a0_0 _ _ l0_1 _ _ l0_7 a0_2 t208 t209 _ ?side1 ?side2 ?side3 ?side4 A25.out).mono ?_); (case side1 => repeat (first | exact (Kd.C_below HR0_1.out HB.out) | (with_reducible refine Kd.C_alloc ?_ _) | (with_reducible refine Kd.C_drewN ?_ _) | (with_reducible refine Kd.C_drew ?_))); (case side2 => exact HC0_1.out); (case side3 => repeat (first | exact (Kd.C_below HR0_7.out HB.out) | (with_reducible refine Kd.C_alloc ?_ _) | (with_reducible refine Kd.C_drewN ?_ _) | (with_reducible refine Kd.C_drew ?_))); (case side4 => exact HC0_7.out); rintro e w57 ⟨rfl, hb⟩; refine ⟨_, rfl, ?_⟩; have n0_ := Aside0.mk (blk_below (g := gb203) (o := .cells #[.int .i64 a0_0, .slice A0_1 l0_1.length c0_1, .int .i64 a0_2, .int .i64 a0_3, .int .i64 a0_4, .slice A0_5 l0_5.length c0_5, .slice A0_6 l0_6.length c0_6, .slice A0_7 l0_7.length c0_7, .slice A0_8 l0_8.length c0_8] 41 (0, 0)) (by (with_reducible repeat (first | refine blk_drewN ?_ _ | refine blk_drew ?_ | refine blk_alloc ?_ _)); exact BK203.out) hb); have n1_ := Aside0.mk (below_step (by repeat (first | (with_reducible first | exact HB.out | apply below_alloc | apply pw_below_drewN | apply below_drew1 | refine below_set ?_ GE203.out) | exact HB.out)) hb); clear BK203; clear HB; have BK203 := n0_; have HB := n1_; clear n0_ n1_; (try clear hb); (try clear hb2); (try clear hk); (try clear hi); have hcz58_0 : w57.cell? ⟨gb203, 0, none⟩ = some (.int .i64 a0_0) := (blk_cell BK203.out 0).trans rfl; have hcz58_1 : w57.cell? ⟨gb203, 1, none⟩ = some (.slice A0_1 l0_1.length c0_1) := (blk_cell BK203.out 1).trans rfl; have hcz58_2 : w57.cell? ⟨gb203, 2, none⟩ = some (.int .i64 a0_2) := (blk_cell BK203.out 2).trans rfl; have hcz58_3 : w57.cell? ⟨gb203, 3, none⟩ = some (.int .i64 a0_3) := (blk_cell BK203.out 3).trans rfl; have hcz58_4 : w57.cell? ⟨gb203, 4, none⟩ = some (.int .i64 a0_4) := (blk_cell BK203.out 4).trans rfl; have hcz58_5 : w57.cell? ⟨gb203, 5, none⟩ = some (.slice A0_5 l0_5.length c0_5) := (blk_cell BK203.out 5).trans rfl; have hcz58_6 : w57.cell? ⟨gb203, 6, none⟩ = some (.slice A0_6 l0_6.length c0_6) := (blk_cell BK203.out 6).trans rfl; have hcz58_7 : w57.cell? ⟨gb203, 7, none⟩ = some (.slice A0_7 l0_7.length c0_7) := (blk_cell BK203.out 7).trans rfl; have hcz58_8 : w57.cell? ⟨gb203, 8, none⟩ = some (.slice A0_8 l0_8.length c0_8) := (blk_cell BK203.out 8).trans rfl; have hfz58_0 := blk_frozen BK203.out 0; have hfz58_1 := blk_frozen BK203.out 1; have hfz58_2 := blk_frozen BK203.out 2; have hfz58_3 := blk_frozen BK203.out 3; have hfz58_4 := blk_frozen BK203.out 4; have hfz58_5 := blk_frozen BK203.out 5; have hfz58_6 := blk_frozen BK203.out 6; have hfz58_7 := blk_frozen BK203.out 7; have hfz58_8 := blk_frozen BK203.out 8) | ((with_reducible refine gate_callee (f := 19) rfl ?_); refine goesL_ (some 60) rfl rfl Try.func19 (by kernel_rfl) rfl #[.agg #[.int .i64 a0_0, .slice A0_1 l0_1.length c0_1], .slice A0_7 l0_7.length c0_7, .int .i64 a0_3] rfl (by (try simp only [List.map_toArray, List.map_cons, List.map_nil]); first | done | rfl | (simp only [List.length_drop, List.length_take]; rfl)) ?_; (with_reducible refine (flow_Value.calls kj3 a0_0 _ _ l0_1 _ _ l0_7 a0_3 t210 t211 _ ?side1 ?side2 ?side3 ?side4 A26.out).mono ?_); (case side1 => repeat (first | exact (Kd.C_below HR0_1.out HB.out) | (with_reducible refine Kd.C_alloc ?_ _) | (with_reducible refine Kd.C_drewN ?_ _) | (with_reducible refine Kd.C_drew ?_))); (case side2 => exact HC0_1.out); (case side3 => repeat (first | exact (Kd.C_below HR0_7.out HB.out) | (with_reducible refine Kd.C_alloc ?_ _) | (with_reducible refine Kd.C_drewN ?_ _) | (with_reducible refine Kd.C_drew ?_))); (case side4 => exact HC0_7.out); rintro e w59 ⟨rfl, hb⟩; refine ⟨_, rfl, ?_⟩; have n0_ := Aside0.mk (blk_below (g := gb203) (o := .cells #[.int .i64 a0_0, .slice A0_1 l0_1.length c0_1, .int .i64 a0_2, .int .i64 a0_3, .int .i64 a0_4, .slice A0_5 l0_5.length c0_5, .slice A0_6 l0_6.length c0_6, .slice A0_7 l0_7.length c0_7, .slice A0_8 l0_8.length c0_8] 41 (0, 0)) (by (with_reducible repeat (first | refine blk_drewN ?_ _ | refine blk_drew ?_ | refine blk_alloc ?_ _)); exact BK203.out) hb); have n1_ := Aside0.mk (below_step (by repeat (first | (with_reducible first | exact HB.out | apply below_alloc | apply pw_below_drewN | apply below_drew1 | refine below_set ?_ GE203.out) | exact HB.out)) hb); clear BK203; clear HB; have BK203 := n0_; have HB := n1_; clear n0_ n1_; (try clear hb); (try clear hb2); (try clear hk); (try clear hi); have hcz60_0 : w59.cell? ⟨gb203, 0, none⟩ = some (.int .i64 a0_0) := (blk_cell BK203.out 0).trans rfl; have hcz60_1 : w59.cell? ⟨gb203, 1, none⟩ = some (.slice A0_1 l0_1.length c0_1) := (blk_cell BK203.out 1).trans rfl; have hcz60_2 : w59.cell? ⟨gb203, 2, none⟩ = some (.int .i64 a0_2) := (blk_cell BK203.out 2).trans rfl; have hcz60_3 : w59.cell? ⟨gb203, 3, none⟩ = some (.int .i64 a0_3) := (blk_cell BK203.out 3).trans rfl; have hcz60_4 : w59.cell? ⟨gb203, 4, none⟩ = some (.int .i64 a0_4) := (blk_cell BK203.out 4).trans rfl; have hcz60_5 : w59.cell? ⟨gb203, 5, none⟩ = some (.slice A0_5 l0_5.length c0_5) := (blk_cell BK203.out 5).trans rfl; have hcz60_6 : w59.cell? ⟨gb203, 6, none⟩ = some (.slice A0_6 l0_6.length c0_6) := (blk_cell BK203.out 6).trans rfl; have hcz60_7 : w59.cell? ⟨gb203, 7, none⟩ = some (.slice A0_7 l0_7.length c0_7) := (blk_cell BK203.out 7).trans rfl; have hcz60_8 : w59.cell? ⟨gb203, 8, none⟩ = some (.slice A0_8 l0_8.length c0_8) := (blk_cell BK203.out 8).trans rfl; have hfz60_0 := blk_frozen BK203.out 0; have hfz60_1 := blk_frozen BK203.out 1; have hfz60_2 := blk_frozen BK203.out 2; have hfz60_3 := blk_frozen BK203.out 3; have hfz60_4 := blk_frozen BK203.out 4; have hfz60_5 := blk_frozen BK203.out 5; have hfz60_6 := blk_frozen BK203.out 6; have hfz60_7 := blk_frozen BK203.out 7; have hfz60_8 := blk_frozen BK203.out 8) | ((with_reducible refine gate_callee (f := 16) rfl ?_); refine goesL_ (some 68) rfl rfl Try.func16 (by kernel_rfl) rfl #[.agg #[.int .i64 a0_0, .slice A0_1 l0_1.length c0_1], .slice A0_8 l0_8.length c0_8] rfl (by (try simp only [List.map_toArray, List.map_cons, List.map_nil]); first | done | rfl | (simp only [List.length_drop, List.length_take]; rfl)) ?_; (with_reducible refine (flow_Cut.calls kj3 a0_0 _ _ l0_1 _ _ l0_8 t212 t213 _ ?side1 ?side2 ?side3 ?side4 A27.out).mono ?_); (case side1 => repeat (first | exact (Kd.C_below HR0_1.out HB.out) | (with_reducible refine Kd.C_alloc ?_ _) | (with_reducible refine Kd.C_drewN ?_ _) | (with_reducible refine Kd.C_drew ?_))); (case side2 => exact HC0_1.out); (case side3 => repeat (first | exact (Kd.C_below HR0_8.out HB.out) | (with_reducible refine Kd.C_alloc ?_ _) | (with_reducible refine Kd.C_drewN ?_ _) | (with_reducible refine Kd.C_drew ?_))); (case side4 => exact HC0_8.out); rintro e w61 ⟨rfl, hb⟩; refine ⟨_, rfl, ?_⟩; have n0_ := Aside0.mk (blk_below (g := gb203) (o := .cells #[.int .i64 a0_0, .slice A0_1 l0_1.length c0_1, .int .i64 a0_2, .int .i64 a0_3, .int .i64 a0_4, .slice A0_5 l0_5.length c0_5, .slice A0_6 l0_6.length c0_6, .slice A0_7 l0_7.length c0_7, .slice A0_8 l0_8.length c0_8] 41 (0, 0)) (by (with_reducible repeat (first | refine blk_drewN ?_ _ | refine blk_drew ?_ | refine blk_alloc ?_ _)); exact BK203.out) hb); have n1_ := Aside0.mk (below_step (by repeat (first | (with_reducible first | exact HB.out | apply below_alloc | apply pw_below_drewN | apply below_drew1 | refine below_set ?_ GE203.out) | exact HB.out)) hb); clear BK203; clear HB; have BK203 := n0_; have HB := n1_; clear n0_ n1_; (try clear hb); (try clear hb2); (try clear hk); (try clear hi)))
            go_ret
            exact ⟨by first | rfl | (simp [errW_none, errW_some] <;> rfl) | (simp [*, errW_none, errW_some] <;> rfl), by repeat (first | (with_reducible first | exact HB.out | apply below_alloc | apply pw_below_drewN | apply below_drew1 | refine below_set ?_ GE203.out) | exact HB.out)⟩
  · replace c3 := Bool.eq_false_iff.mpr c3
    subst c3
    have H1 : (some false) = some r := by rw [if_neg (show ¬ (false = true) by decide)] at H; exact H
    clear H
    have H := H1
    clear H1
    obtain rfl := Option.some.inj H
    go_enter Try.func6, Try.ntmps6
    go_wp2_with (first | ((with_reducible refine gate_dst (N := 1) rfl ?_); refine box_event ?hg (N := 1) ?hd (cs := #[.int .i64 a0_0, .slice A0_1 l0_1.length c0_1, .int .i64 a0_2, .int .i64 a0_3, .int .i64 a0_4, .slice A0_5 l0_5.length c0_5, .slice A0_6 l0_6.length c0_6, .slice A0_7 l0_7.length c0_7, .slice A0_8 l0_8.length c0_8]) (t := 41) ?hr ?_; (case hd => rfl); (case hg => rfl); (case hr => first | (go_simp; done) | (go_simp; rfl)); intro gb203 hg w62 hbox hb; have n0_ := Aside0.mk (below_step (by repeat (first | (with_reducible first | exact HB.out | apply below_alloc | apply pw_below_drewN | apply below_drew1) | exact HB.out)) hb); have n1_ := Aside0.mk (hbox); have n2_ := Aside0.mk ((by rw [hg]; exact (below_size (by repeat (first | (with_reducible first | exact HB.out | apply below_alloc | apply pw_below_drewN | apply below_drew1) | exact HB.out))) : w.heap.size ≤ gb203)); have n3_ := Aside0.mk ((by rw [hg]; exact (below_size (by repeat (first | (with_reducible first | exact HB.out | apply below_alloc | apply pw_below_drewN | apply below_drew1) | exact HB.out))) : w.heap.size ≤ gb203)); clear HB; have HB := n0_; have BK203 := n1_; have GW203 := n2_; have GE203 := n3_; clear n0_ n1_ n2_ n3_; clear hb hbox hg) | ((with_reducible refine gate_callee (f := 18) rfl ?_); refine goesL_ (some 9) rfl rfl Try.func18 (by kernel_rfl) rfl #[] rfl (by (try simp only [List.map_toArray, List.map_cons, List.map_nil]); first | done | rfl | (simp only [List.length_drop, List.length_take]; rfl)) ?_; (with_reducible refine (codewrightlaw51_alive.calls k  false _ A2.out).mono ?_); rintro e w63 ⟨rfl, hb⟩; refine ⟨_, rfl, ?_⟩; have n0_ := Aside0.mk (blk_below (g := gb203) (o := .cells #[.int .i64 a0_0, .slice A0_1 l0_1.length c0_1, .int .i64 a0_2, .int .i64 a0_3, .int .i64 a0_4, .slice A0_5 l0_5.length c0_5, .slice A0_6 l0_6.length c0_6, .slice A0_7 l0_7.length c0_7, .slice A0_8 l0_8.length c0_8] 41 (0, 0)) (by (with_reducible repeat (first | refine blk_drewN ?_ _ | refine blk_drew ?_ | refine blk_alloc ?_ _)); exact BK203.out) hb); have n1_ := Aside0.mk (below_step (by repeat (first | (with_reducible first | exact HB.out | apply below_alloc | apply pw_below_drewN | apply below_drew1 | refine below_set ?_ GE203.out) | exact HB.out)) hb); clear BK203; clear HB; have BK203 := n0_; have HB := n1_; clear n0_ n1_; (try clear hb); (try clear hb2); (try clear hk); (try clear hi)))
    go_ret
    exact ⟨by first | rfl | (simp [errW_none, errW_some] <;> rfl) | (simp [*, errW_none, errW_some] <;> rfl), by repeat (first | (with_reducible first | exact HB.out | apply below_alloc | apply pw_below_drewN | apply below_drew1 | refine below_set ?_ GE203.out) | exact HB.out)⟩

end Go.Proofs.Ytidomjhihfoabaa.PF
