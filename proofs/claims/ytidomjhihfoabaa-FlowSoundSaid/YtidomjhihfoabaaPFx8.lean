-- printed by a program out of Lean's own print of the program (the kit's print.py, one namespace for several laws)
import Derived.Test.YtidomjhihfoabaaPFx0
import Derived.Test.YtidomjhihfoabaaPFx16
import Derived.Test.YtidomjhihfoabaaPFx18
import Derived.Test.YtidomjhihfoabaaPFx19
import Derived.Test.YtidomjhihfoabaaPFx21
import Derived.Test.YtidomjhihfoabaaPFx22
import Derived.Test.YtidomjhihfoabaaPFx23
import Derived.Test.YtidomjhihfoabaaPFx24
namespace Go.Proofs.Ytidomjhihfoabaa.PF
open Go.RowKit Go.Proofs.YtidomjhihfoabaaW.PrintWords Go.Proofs.YtidomjhihfoabaaW.PrintLast Go.Proofs.YtidomjhihfoabaaW.PrintMore
attribute [local go_sem] max2_int min2_int max_two min_two max_three min_three max_four min_four   -- for this text's walks alone
set_option linter.unusedVariables false
set_option linter.unusedSimpArgs false

/-! ### codewrightlaw51_FlowSound: function 8 -/
def codewrightlaw51_FlowSound.j0 : Nat → Int → List (S36) → Int → Int → Int → List Int → List Bool → List Int → List Bool → Option (Bool)
  | 0, _, _, _, _, _, _, _, _, _ => none
  | k + 1, x247000, x247001, x247002, x247003, x247004, x247005, x247006, x247007, x247008 => (codewrightref51_IsCut.f x247000 x247001 x247002 x247003 x247008).bind fun t253 => (if t253 = true then ((flow_Cut.f k x247000 x247001 x247008).bind fun bt254 => (if bt254.2 = 0 then (if bt254.1 < x247004 then (some false) else (some true)) else (some false))) else (some true))
def codewrightlaw51_FlowSound.f (k : Nat) (a0_0 : Int) (l0_1 : List (S36)) (a0_2 : Int) (a0_3 : Int) (a0_4 : Int) (l0_5 : List Int) (l0_6 : List Bool) (l0_7 : List Int) (l0_8 : List Bool) : Option (Bool) := (codewrightlaw51_alive.f k).bind fun t247 => (if t247 = true then ((flow_Check.f k a0_0 l0_1 a0_2 a0_3 a0_4 l0_5 l0_6).bind fun t248 => (if t248 = 0 then ((codewrightref51_Ends.f k a0_0 l0_1 a0_2 a0_3).bind fun t249 => (if t249 = 0 then ((codewrightref51_IsFlow.f k a0_0 l0_1 a0_2 a0_3 l0_7).bind fun t250 => (if t250 = true then ((flow_Value.f k a0_0 l0_1 l0_7 a0_2).bind fun bt251 => (if bt251.2 = 0 then (if bt251.1 > a0_4 then (some false) else (codewrightlaw51_FlowSound.j0 k a0_0 l0_1 a0_2 a0_3 a0_4 l0_5 l0_6 l0_7 l0_8)) else (some false))) else (codewrightlaw51_FlowSound.j0 k a0_0 l0_1 a0_2 a0_3 a0_4 l0_5 l0_6 l0_7 l0_8))) else (some false))) else (some true))) else (some false))
theorem codewrightlaw51_FlowSound.mono_l : ∀ k, (∀ y0 y1 y2 y3 y4 y5 y6 y7 y8, LeO (codewrightlaw51_FlowSound.j0 k y0 y1 y2 y3 y4 y5 y6 y7 y8) (codewrightlaw51_FlowSound.j0 (k + 1) y0 y1 y2 y3 y4 y5 y6 y7 y8))
  | 0 => fun _ _ _ _ _ _ _ _ _ r h => by simp [codewrightlaw51_FlowSound.j0] at h
  | k + 1 => by
    have ih0 := codewrightlaw51_FlowSound.mono_l k
    · intro y0 y1 y2 y3 y4 y5 y6 y7 y8
      unfold codewrightlaw51_FlowSound.j0
      repeat' first
      | (with_reducible exact ih0 _ _ _ _ _ _ _ _ _)
      | (with_reducible exact codewrightlaw51_alive.mono _)
      | (with_reducible exact codewrightref51_Ends.mono _ _ _ _ _)
      | (with_reducible exact codewrightref51_IsFlow.mono _ _ _ _ _ _)
      | (with_reducible exact flow_Check.mono _ _ _ _ _ _ _ _)
      | (with_reducible exact flow_Cut.mono _ _ _ _)
      | (with_reducible exact flow_Value.mono _ _ _ _ _)
      | (with_reducible exact LeO.refl _)
      | (with_reducible exact LeO.none _)
      | (with_reducible refine LeO.ite ?_ ?_)
      | (with_reducible refine LeO.bind ?_ (fun _ => ?_))
      | exact ih0 _ _ _ _ _ _ _ _ _
      | exact codewrightlaw51_alive.mono _
      | exact codewrightref51_Ends.mono _ _ _ _ _
      | exact codewrightref51_IsFlow.mono _ _ _ _ _ _
      | exact flow_Check.mono _ _ _ _ _ _ _ _
      | exact flow_Cut.mono _ _ _ _
      | exact flow_Value.mono _ _ _ _ _
      | exact LeO.none _
      | refine LeO.ite ?_ ?_
      | refine LeO.bind ?_ (fun _ => ?_)
theorem codewrightlaw51_FlowSound.mono : ∀ a0 a1 a2 a3 a4 a5 a6 a7 a8 k, LeO (codewrightlaw51_FlowSound.f k a0 a1 a2 a3 a4 a5 a6 a7 a8) (codewrightlaw51_FlowSound.f (k + 1) a0 a1 a2 a3 a4 a5 a6 a7 a8) := by
  intro a0 a1 a2 a3 a4 a5 a6 a7 a8 k
  have ih0 := codewrightlaw51_FlowSound.mono_l k
  unfold codewrightlaw51_FlowSound.f
  repeat' first
      | (with_reducible exact ih0 _ _ _ _ _ _ _ _ _)
      | (with_reducible exact codewrightlaw51_alive.mono _)
      | (with_reducible exact codewrightref51_Ends.mono _ _ _ _ _)
      | (with_reducible exact codewrightref51_IsFlow.mono _ _ _ _ _ _)
      | (with_reducible exact flow_Check.mono _ _ _ _ _ _ _ _)
      | (with_reducible exact flow_Cut.mono _ _ _ _)
      | (with_reducible exact flow_Value.mono _ _ _ _ _)
      | (with_reducible exact LeO.refl _)
      | (with_reducible exact LeO.none _)
      | (with_reducible refine LeO.ite ?_ ?_)
      | (with_reducible refine LeO.bind ?_ (fun _ => ?_))
      | exact ih0 _ _ _ _ _ _ _ _ _
      | exact codewrightlaw51_alive.mono _
      | exact codewrightref51_Ends.mono _ _ _ _ _
      | exact codewrightref51_IsFlow.mono _ _ _ _ _ _
      | exact flow_Check.mono _ _ _ _ _ _ _ _
      | exact flow_Cut.mono _ _ _ _
      | exact flow_Value.mono _ _ _ _ _
      | exact LeO.none _
      | refine LeO.ite ?_ ?_
      | refine LeO.bind ?_ (fun _ => ?_)
set_option maxHeartbeats 8000000 in
set_option maxRecDepth 100000 in
theorem codewrightlaw51_FlowSound.calls (k : Nat) (a0_0 : Int) (A0_1 : Option Addr) (c0_1 : Nat) (l0_1 : List (S36)) (a0_2 : Int) (a0_3 : Int) (a0_4 : Int) (A0_5 : Option Addr) (c0_5 : Nat) (l0_5 : List Int) (A0_6 : Option Addr) (c0_6 : Nat) (l0_6 : List Bool) (A0_7 : Option Addr) (c0_7 : Nat) (l0_7 : List Int) (A0_8 : Option Addr) (c0_8 : Nat) (l0_8 : List Bool) (r : Bool) (w : World) (hr0_1 : Kd.C k36 w A0_1 l0_1.length l0_1) (hc0_1 : l0_1.length ≤ c0_1) (hr0_5 : Kd.C (Kd.int .i64) w A0_5 l0_5.length l0_5) (hc0_5 : l0_5.length ≤ c0_5) (hr0_6 : Kd.C Kd.bool w A0_6 l0_6.length l0_6) (hc0_6 : l0_6.length ≤ c0_6) (hr0_7 : Kd.C (Kd.int .i64) w A0_7 l0_7.length l0_7) (hc0_7 : l0_7.length ≤ c0_7) (hr0_8 : Kd.C Kd.bool w A0_8 l0_8.length l0_8) (hc0_8 : l0_8.length ≤ c0_8) (h : codewrightlaw51_FlowSound.f k a0_0 l0_1 a0_2 a0_3 a0_4 l0_5 l0_6 l0_7 l0_8 = some r) :
    Calls Try.prog 8 #[.agg #[.int .i64 a0_0, .slice A0_1 l0_1.length c0_1, .int .i64 a0_2, .int .i64 a0_3, .int .i64 a0_4, .slice A0_5 l0_5.length c0_5, .slice A0_6 l0_6.length c0_6, .slice A0_7 l0_7.length c0_7, .slice A0_8 l0_8.length c0_8]] w fun e w' => e = .returned (.bool r) ∧ Below w.heap.size w w' := by
  have hu41 := Try.underlying41
  have hu24 := Try.underlying24
  have hu39 := Try.underlying39
  have HR0_1 := Aside0.mk hr0_1
  have HC0_1 := Aside0.mk hc0_1
  clear hr0_1 hc0_1
  have HR0_5 := Aside0.mk hr0_5
  have HC0_5 := Aside0.mk hc0_5
  clear hr0_5 hc0_5
  have HR0_6 := Aside0.mk hr0_6
  have HC0_6 := Aside0.mk hc0_6
  clear hr0_6 hc0_6
  have HR0_7 := Aside0.mk hr0_7
  have HC0_7 := Aside0.mk hc0_7
  clear hr0_7 hc0_7
  have HR0_8 := Aside0.mk hr0_8
  have HC0_8 := Aside0.mk hc0_8
  clear hr0_8 hc0_8
  have HB := Aside0.mk (Below.refl w.heap.size w)
  have H : ((codewrightlaw51_alive.f k).bind fun t247 => (if t247 = true then ((flow_Check.f k a0_0 l0_1 a0_2 a0_3 a0_4 l0_5 l0_6).bind fun t248 => (if t248 = 0 then ((codewrightref51_Ends.f k a0_0 l0_1 a0_2 a0_3).bind fun t249 => (if t249 = 0 then ((codewrightref51_IsFlow.f k a0_0 l0_1 a0_2 a0_3 l0_7).bind fun t250 => (if t250 = true then ((flow_Value.f k a0_0 l0_1 l0_7 a0_2).bind fun bt251 => (if bt251.2 = 0 then (if bt251.1 > a0_4 then (some false) else (codewrightlaw51_FlowSound.j0 k a0_0 l0_1 a0_2 a0_3 a0_4 l0_5 l0_6 l0_7 l0_8)) else (some false))) else (codewrightlaw51_FlowSound.j0 k a0_0 l0_1 a0_2 a0_3 a0_4 l0_5 l0_6 l0_7 l0_8))) else (some false))) else (some true))) else (some false))) = some r := h
  clear h
  replace H := Option.bind_eq_some_iff.mp H
  obtain ⟨t247, A20, H⟩ := H
  replace H : (if t247 = true then ((flow_Check.f k a0_0 l0_1 a0_2 a0_3 a0_4 l0_5 l0_6).bind fun t248 => (if t248 = 0 then ((codewrightref51_Ends.f k a0_0 l0_1 a0_2 a0_3).bind fun t249 => (if t249 = 0 then ((codewrightref51_IsFlow.f k a0_0 l0_1 a0_2 a0_3 l0_7).bind fun t250 => (if t250 = true then ((flow_Value.f k a0_0 l0_1 l0_7 a0_2).bind fun bt251 => (if bt251.2 = 0 then (if bt251.1 > a0_4 then (some false) else (codewrightlaw51_FlowSound.j0 k a0_0 l0_1 a0_2 a0_3 a0_4 l0_5 l0_6 l0_7 l0_8)) else (some false))) else (codewrightlaw51_FlowSound.j0 k a0_0 l0_1 a0_2 a0_3 a0_4 l0_5 l0_6 l0_7 l0_8))) else (some false))) else (some true))) else (some false)) = some r := H
  have A2 := Aside0.mk A20
  clear A20
  by_cases c3 : t247 = true
  · subst c3
    have H1 : ((flow_Check.f k a0_0 l0_1 a0_2 a0_3 a0_4 l0_5 l0_6).bind fun t248 => (if t248 = 0 then ((codewrightref51_Ends.f k a0_0 l0_1 a0_2 a0_3).bind fun t249 => (if t249 = 0 then ((codewrightref51_IsFlow.f k a0_0 l0_1 a0_2 a0_3 l0_7).bind fun t250 => (if t250 = true then ((flow_Value.f k a0_0 l0_1 l0_7 a0_2).bind fun bt251 => (if bt251.2 = 0 then (if bt251.1 > a0_4 then (some false) else (codewrightlaw51_FlowSound.j0 k a0_0 l0_1 a0_2 a0_3 a0_4 l0_5 l0_6 l0_7 l0_8)) else (some false))) else (codewrightlaw51_FlowSound.j0 k a0_0 l0_1 a0_2 a0_3 a0_4 l0_5 l0_6 l0_7 l0_8))) else (some false))) else (some true))) = some r := by rw [if_pos rfl] at H; exact H
    clear H
    have H := H1
    clear H1
    replace H := Option.bind_eq_some_iff.mp H
    obtain ⟨t248, A40, H⟩ := H
    replace H : (if t248 = 0 then ((codewrightref51_Ends.f k a0_0 l0_1 a0_2 a0_3).bind fun t249 => (if t249 = 0 then ((codewrightref51_IsFlow.f k a0_0 l0_1 a0_2 a0_3 l0_7).bind fun t250 => (if t250 = true then ((flow_Value.f k a0_0 l0_1 l0_7 a0_2).bind fun bt251 => (if bt251.2 = 0 then (if bt251.1 > a0_4 then (some false) else (codewrightlaw51_FlowSound.j0 k a0_0 l0_1 a0_2 a0_3 a0_4 l0_5 l0_6 l0_7 l0_8)) else (some false))) else (codewrightlaw51_FlowSound.j0 k a0_0 l0_1 a0_2 a0_3 a0_4 l0_5 l0_6 l0_7 l0_8))) else (some false))) else (some true)) = some r := H
    have A4 := Aside0.mk A40
    clear A40
    by_cases c5 : t248 = 0
    · rw [if_pos c5] at H
      have c5b0 : (t248 == 0) = true := beq_iff_eq.mpr c5
      have c5b1 : (t248 != 0) = false := bne_eq_false_iff_eq.mpr c5
      clear c5
      replace H := Option.bind_eq_some_iff.mp H
      obtain ⟨t249, A60, H⟩ := H
      replace H : (if t249 = 0 then ((codewrightref51_IsFlow.f k a0_0 l0_1 a0_2 a0_3 l0_7).bind fun t250 => (if t250 = true then ((flow_Value.f k a0_0 l0_1 l0_7 a0_2).bind fun bt251 => (if bt251.2 = 0 then (if bt251.1 > a0_4 then (some false) else (codewrightlaw51_FlowSound.j0 k a0_0 l0_1 a0_2 a0_3 a0_4 l0_5 l0_6 l0_7 l0_8)) else (some false))) else (codewrightlaw51_FlowSound.j0 k a0_0 l0_1 a0_2 a0_3 a0_4 l0_5 l0_6 l0_7 l0_8))) else (some false)) = some r := H
      have A6 := Aside0.mk A60
      clear A60
      by_cases c7 : t249 = 0
      · rw [if_pos c7] at H
        have c7b0 : (t249 == 0) = true := beq_iff_eq.mpr c7
        have c7b1 : (t249 != 0) = false := bne_eq_false_iff_eq.mpr c7
        clear c7
        replace H := Option.bind_eq_some_iff.mp H
        obtain ⟨t250, A80, H⟩ := H
        replace H : (if t250 = true then ((flow_Value.f k a0_0 l0_1 l0_7 a0_2).bind fun bt251 => (if bt251.2 = 0 then (if bt251.1 > a0_4 then (some false) else (codewrightlaw51_FlowSound.j0 k a0_0 l0_1 a0_2 a0_3 a0_4 l0_5 l0_6 l0_7 l0_8)) else (some false))) else (codewrightlaw51_FlowSound.j0 k a0_0 l0_1 a0_2 a0_3 a0_4 l0_5 l0_6 l0_7 l0_8)) = some r := H
        have A8 := Aside0.mk A80
        clear A80
        have HC9 := Aside0.mk H
        clear H
        go_enter Try.func8, Try.ntmps8
        go_upto_if 35 with (first | ((with_reducible refine gate_dst (N := 1) rfl ?_); refine box_event ?hg (N := 1) ?hd (cs := #[.int .i64 a0_0, .slice A0_1 l0_1.length c0_1, .int .i64 a0_2, .int .i64 a0_3, .int .i64 a0_4, .slice A0_5 l0_5.length c0_5, .slice A0_6 l0_6.length c0_6, .slice A0_7 l0_7.length c0_7, .slice A0_8 l0_8.length c0_8]) (t := 41) ?hr ?_; (case hd => rfl); (case hg => rfl); (case hr => first | (go_simp; done) | (go_simp; rfl)); intro gb246 hg w10 hbox hb; have n0_ := Aside0.mk (below_step (by repeat (first | (with_reducible first | exact HB.out | apply below_alloc | apply pw_below_drewN | apply below_drew1) | exact HB.out)) hb); have n1_ := Aside0.mk (hbox); have n2_ := Aside0.mk ((by rw [hg]; exact (below_size (by repeat (first | (with_reducible first | exact HB.out | apply below_alloc | apply pw_below_drewN | apply below_drew1) | exact HB.out))) : w.heap.size ≤ gb246)); have n3_ := Aside0.mk ((by rw [hg]; exact (below_size (by repeat (first | (with_reducible first | exact HB.out | apply below_alloc | apply pw_below_drewN | apply below_drew1) | exact HB.out))) : w.heap.size ≤ gb246)); clear HB; have HB := n0_; have BK246 := n1_; have GW246 := n2_; have GE246 := n3_; clear n0_ n1_ n2_ n3_; clear hb hbox hg) | ((with_reducible refine gate_callee (f := 18) rfl ?_); refine goesL_ (some 7) rfl rfl Try.func18 (by kernel_rfl) rfl #[] rfl (by (try simp only [List.map_toArray, List.map_cons, List.map_nil]); first | done | rfl | (simp only [List.length_drop, List.length_take]; rfl)) ?_; (with_reducible refine (codewrightlaw51_alive.calls k  true _ A2.out).mono ?_); rintro e w11 ⟨rfl, hb⟩; refine ⟨_, rfl, ?_⟩; have n0_ := Aside0.mk (blk_below (g := gb246) (o := .cells #[.int .i64 a0_0, .slice A0_1 l0_1.length c0_1, .int .i64 a0_2, .int .i64 a0_3, .int .i64 a0_4, .slice A0_5 l0_5.length c0_5, .slice A0_6 l0_6.length c0_6, .slice A0_7 l0_7.length c0_7, .slice A0_8 l0_8.length c0_8] 41 (0, 0)) (by (with_reducible repeat (first | refine blk_drewN ?_ _ | refine blk_drew ?_ | refine blk_alloc ?_ _)); exact BK246.out) hb); have n1_ := Aside0.mk (below_step (by repeat (first | (with_reducible first | exact HB.out | apply below_alloc | apply pw_below_drewN | apply below_drew1 | refine below_set ?_ GE246.out) | exact HB.out)) hb); clear BK246; clear HB; have BK246 := n0_; have HB := n1_; clear n0_ n1_; (try clear hb); (try clear hb2); (try clear hk); (try clear hi); have hcz12_0 : w11.cell? ⟨gb246, 0, none⟩ = some (.int .i64 a0_0) := (blk_cell BK246.out 0).trans rfl; have hcz12_1 : w11.cell? ⟨gb246, 1, none⟩ = some (.slice A0_1 l0_1.length c0_1) := (blk_cell BK246.out 1).trans rfl; have hcz12_2 : w11.cell? ⟨gb246, 2, none⟩ = some (.int .i64 a0_2) := (blk_cell BK246.out 2).trans rfl; have hcz12_3 : w11.cell? ⟨gb246, 3, none⟩ = some (.int .i64 a0_3) := (blk_cell BK246.out 3).trans rfl; have hcz12_4 : w11.cell? ⟨gb246, 4, none⟩ = some (.int .i64 a0_4) := (blk_cell BK246.out 4).trans rfl; have hcz12_5 : w11.cell? ⟨gb246, 5, none⟩ = some (.slice A0_5 l0_5.length c0_5) := (blk_cell BK246.out 5).trans rfl; have hcz12_6 : w11.cell? ⟨gb246, 6, none⟩ = some (.slice A0_6 l0_6.length c0_6) := (blk_cell BK246.out 6).trans rfl; have hcz12_7 : w11.cell? ⟨gb246, 7, none⟩ = some (.slice A0_7 l0_7.length c0_7) := (blk_cell BK246.out 7).trans rfl; have hcz12_8 : w11.cell? ⟨gb246, 8, none⟩ = some (.slice A0_8 l0_8.length c0_8) := (blk_cell BK246.out 8).trans rfl; have hfz12_0 := blk_frozen BK246.out 0; have hfz12_1 := blk_frozen BK246.out 1; have hfz12_2 := blk_frozen BK246.out 2; have hfz12_3 := blk_frozen BK246.out 3; have hfz12_4 := blk_frozen BK246.out 4; have hfz12_5 := blk_frozen BK246.out 5; have hfz12_6 := blk_frozen BK246.out 6; have hfz12_7 := blk_frozen BK246.out 7; have hfz12_8 := blk_frozen BK246.out 8) | ((with_reducible refine gate_callee (f := 24) rfl ?_); refine goesL_ (some 17) rfl rfl Try.func24 (by kernel_rfl) rfl #[.agg #[.int .i64 a0_0, .slice A0_1 l0_1.length c0_1], .int .i64 a0_2, .int .i64 a0_3, .agg #[.int .i64 a0_4, .slice A0_5 l0_5.length c0_5, .slice A0_6 l0_6.length c0_6]] rfl (by (try simp only [List.map_toArray, List.map_cons, List.map_nil]); first | done | rfl | (simp only [List.length_drop, List.length_take]; rfl)) ?_; (with_reducible refine (flow_Check.calls k a0_0 _ _ l0_1 a0_2 a0_3 a0_4 _ _ l0_5 _ _ l0_6 t248 _ ?side1 ?side2 ?side3 ?side4 ?side5 ?side6 A4.out).mono ?_); (case side1 => repeat (first | exact (Kd.C_below HR0_1.out HB.out) | (with_reducible refine Kd.C_alloc ?_ _) | (with_reducible refine Kd.C_drewN ?_ _) | (with_reducible refine Kd.C_drew ?_))); (case side2 => exact HC0_1.out); (case side3 => repeat (first | exact (Kd.C_below HR0_5.out HB.out) | (with_reducible refine Kd.C_alloc ?_ _) | (with_reducible refine Kd.C_drewN ?_ _) | (with_reducible refine Kd.C_drew ?_))); (case side4 => exact HC0_5.out); (case side5 => repeat (first | exact (Kd.C_below HR0_6.out HB.out) | (with_reducible refine Kd.C_alloc ?_ _) | (with_reducible refine Kd.C_drewN ?_ _) | (with_reducible refine Kd.C_drew ?_))); (case side6 => exact HC0_6.out); rintro e w13 ⟨rfl, hb⟩; refine ⟨_, rfl, ?_⟩; have n0_ := Aside0.mk (blk_below (g := gb246) (o := .cells #[.int .i64 a0_0, .slice A0_1 l0_1.length c0_1, .int .i64 a0_2, .int .i64 a0_3, .int .i64 a0_4, .slice A0_5 l0_5.length c0_5, .slice A0_6 l0_6.length c0_6, .slice A0_7 l0_7.length c0_7, .slice A0_8 l0_8.length c0_8] 41 (0, 0)) (by (with_reducible repeat (first | refine blk_drewN ?_ _ | refine blk_drew ?_ | refine blk_alloc ?_ _)); exact BK246.out) hb); have n1_ := Aside0.mk (below_step (by repeat (first | (with_reducible first | exact HB.out | apply below_alloc | apply pw_below_drewN | apply below_drew1 | refine below_set ?_ GE246.out) | exact HB.out)) hb); clear BK246; clear HB; have BK246 := n0_; have HB := n1_; clear n0_ n1_; (try clear hb); (try clear hb2); (try clear hk); (try clear hi); have hcz14_0 : w13.cell? ⟨gb246, 0, none⟩ = some (.int .i64 a0_0) := (blk_cell BK246.out 0).trans rfl; have hcz14_1 : w13.cell? ⟨gb246, 1, none⟩ = some (.slice A0_1 l0_1.length c0_1) := (blk_cell BK246.out 1).trans rfl; have hcz14_2 : w13.cell? ⟨gb246, 2, none⟩ = some (.int .i64 a0_2) := (blk_cell BK246.out 2).trans rfl; have hcz14_3 : w13.cell? ⟨gb246, 3, none⟩ = some (.int .i64 a0_3) := (blk_cell BK246.out 3).trans rfl; have hcz14_4 : w13.cell? ⟨gb246, 4, none⟩ = some (.int .i64 a0_4) := (blk_cell BK246.out 4).trans rfl; have hcz14_5 : w13.cell? ⟨gb246, 5, none⟩ = some (.slice A0_5 l0_5.length c0_5) := (blk_cell BK246.out 5).trans rfl; have hcz14_6 : w13.cell? ⟨gb246, 6, none⟩ = some (.slice A0_6 l0_6.length c0_6) := (blk_cell BK246.out 6).trans rfl; have hcz14_7 : w13.cell? ⟨gb246, 7, none⟩ = some (.slice A0_7 l0_7.length c0_7) := (blk_cell BK246.out 7).trans rfl; have hcz14_8 : w13.cell? ⟨gb246, 8, none⟩ = some (.slice A0_8 l0_8.length c0_8) := (blk_cell BK246.out 8).trans rfl; have hfz14_0 := blk_frozen BK246.out 0; have hfz14_1 := blk_frozen BK246.out 1; have hfz14_2 := blk_frozen BK246.out 2; have hfz14_3 := blk_frozen BK246.out 3; have hfz14_4 := blk_frozen BK246.out 4; have hfz14_5 := blk_frozen BK246.out 5; have hfz14_6 := blk_frozen BK246.out 6; have hfz14_7 := blk_frozen BK246.out 7; have hfz14_8 := blk_frozen BK246.out 8) | ((with_reducible refine gate_callee (f := 21) rfl ?_); refine goesL_ (some 25) rfl rfl Try.func21 (by kernel_rfl) rfl #[.agg #[.int .i64 a0_0, .slice A0_1 l0_1.length c0_1], .int .i64 a0_2, .int .i64 a0_3] rfl (by (try simp only [List.map_toArray, List.map_cons, List.map_nil]); first | done | rfl | (simp only [List.length_drop, List.length_take]; rfl)) ?_; (with_reducible refine (codewrightref51_Ends.calls k a0_0 _ _ l0_1 a0_2 a0_3 t249 _ ?side1 ?side2 A6.out).mono ?_); (case side1 => repeat (first | exact (Kd.C_below HR0_1.out HB.out) | (with_reducible refine Kd.C_alloc ?_ _) | (with_reducible refine Kd.C_drewN ?_ _) | (with_reducible refine Kd.C_drew ?_))); (case side2 => exact HC0_1.out); rintro e w15 ⟨rfl, hb⟩; refine ⟨_, rfl, ?_⟩; have n0_ := Aside0.mk (blk_below (g := gb246) (o := .cells #[.int .i64 a0_0, .slice A0_1 l0_1.length c0_1, .int .i64 a0_2, .int .i64 a0_3, .int .i64 a0_4, .slice A0_5 l0_5.length c0_5, .slice A0_6 l0_6.length c0_6, .slice A0_7 l0_7.length c0_7, .slice A0_8 l0_8.length c0_8] 41 (0, 0)) (by (with_reducible repeat (first | refine blk_drewN ?_ _ | refine blk_drew ?_ | refine blk_alloc ?_ _)); exact BK246.out) hb); have n1_ := Aside0.mk (below_step (by repeat (first | (with_reducible first | exact HB.out | apply below_alloc | apply pw_below_drewN | apply below_drew1 | refine below_set ?_ GE246.out) | exact HB.out)) hb); clear BK246; clear HB; have BK246 := n0_; have HB := n1_; clear n0_ n1_; (try clear hb); (try clear hb2); (try clear hk); (try clear hi); have hcz16_0 : w15.cell? ⟨gb246, 0, none⟩ = some (.int .i64 a0_0) := (blk_cell BK246.out 0).trans rfl; have hcz16_1 : w15.cell? ⟨gb246, 1, none⟩ = some (.slice A0_1 l0_1.length c0_1) := (blk_cell BK246.out 1).trans rfl; have hcz16_2 : w15.cell? ⟨gb246, 2, none⟩ = some (.int .i64 a0_2) := (blk_cell BK246.out 2).trans rfl; have hcz16_3 : w15.cell? ⟨gb246, 3, none⟩ = some (.int .i64 a0_3) := (blk_cell BK246.out 3).trans rfl; have hcz16_4 : w15.cell? ⟨gb246, 4, none⟩ = some (.int .i64 a0_4) := (blk_cell BK246.out 4).trans rfl; have hcz16_5 : w15.cell? ⟨gb246, 5, none⟩ = some (.slice A0_5 l0_5.length c0_5) := (blk_cell BK246.out 5).trans rfl; have hcz16_6 : w15.cell? ⟨gb246, 6, none⟩ = some (.slice A0_6 l0_6.length c0_6) := (blk_cell BK246.out 6).trans rfl; have hcz16_7 : w15.cell? ⟨gb246, 7, none⟩ = some (.slice A0_7 l0_7.length c0_7) := (blk_cell BK246.out 7).trans rfl; have hcz16_8 : w15.cell? ⟨gb246, 8, none⟩ = some (.slice A0_8 l0_8.length c0_8) := (blk_cell BK246.out 8).trans rfl; have hfz16_0 := blk_frozen BK246.out 0; have hfz16_1 := blk_frozen BK246.out 1; have hfz16_2 := blk_frozen BK246.out 2; have hfz16_3 := blk_frozen BK246.out 3; have hfz16_4 := blk_frozen BK246.out 4; have hfz16_5 := blk_frozen BK246.out 5; have hfz16_6 := blk_frozen BK246.out 6; have hfz16_7 := blk_frozen BK246.out 7; have hfz16_8 := blk_frozen BK246.out 8) | ((with_reducible refine gate_callee (f := 22) rfl ?_); refine goesL_ (some 35) rfl rfl Try.func22 (by kernel_rfl) rfl #[.agg #[.int .i64 a0_0, .slice A0_1 l0_1.length c0_1], .int .i64 a0_2, .int .i64 a0_3, .slice A0_7 l0_7.length c0_7] rfl (by (try simp only [List.map_toArray, List.map_cons, List.map_nil]); first | done | rfl | (simp only [List.length_drop, List.length_take]; rfl)) ?_; (with_reducible refine (codewrightref51_IsFlow.calls k a0_0 _ _ l0_1 a0_2 a0_3 _ _ l0_7 t250 _ ?side1 ?side2 ?side3 ?side4 A8.out).mono ?_); (case side1 => repeat (first | exact (Kd.C_below HR0_1.out HB.out) | (with_reducible refine Kd.C_alloc ?_ _) | (with_reducible refine Kd.C_drewN ?_ _) | (with_reducible refine Kd.C_drew ?_))); (case side2 => exact HC0_1.out); (case side3 => repeat (first | exact (Kd.C_below HR0_7.out HB.out) | (with_reducible refine Kd.C_alloc ?_ _) | (with_reducible refine Kd.C_drewN ?_ _) | (with_reducible refine Kd.C_drew ?_))); (case side4 => exact HC0_7.out); rintro e w17 ⟨rfl, hb⟩; refine ⟨_, rfl, ?_⟩; have n0_ := Aside0.mk (blk_below (g := gb246) (o := .cells #[.int .i64 a0_0, .slice A0_1 l0_1.length c0_1, .int .i64 a0_2, .int .i64 a0_3, .int .i64 a0_4, .slice A0_5 l0_5.length c0_5, .slice A0_6 l0_6.length c0_6, .slice A0_7 l0_7.length c0_7, .slice A0_8 l0_8.length c0_8] 41 (0, 0)) (by (with_reducible repeat (first | refine blk_drewN ?_ _ | refine blk_drew ?_ | refine blk_alloc ?_ _)); exact BK246.out) hb); have n1_ := Aside0.mk (below_step (by repeat (first | (with_reducible first | exact HB.out | apply below_alloc | apply pw_below_drewN | apply below_drew1 | refine below_set ?_ GE246.out) | exact HB.out)) hb); clear BK246; clear HB; have BK246 := n0_; have HB := n1_; clear n0_ n1_; (try clear hb); (try clear hb2); (try clear hk); (try clear hi)))
        (try simp only [Act.put, List.setIfInBounds_toArray, List.set_cons_zero, List.set_cons_succ])
        go_cut [] (fun wc => ∃ (kq : Nat), Aside0 (codewrightlaw51_FlowSound.j0 kq a0_0 l0_1 a0_2 a0_3 a0_4 l0_5 l0_6 l0_7 l0_8 = some r) ∧ Aside0 (kq ≤ k) ∧ Aside0 (wc.heap[gb246]? = some (.cells #[.int .i64 a0_0, (.slice A0_1 l0_1.length c0_1), .int .i64 a0_2, .int .i64 a0_3, .int .i64 a0_4, (.slice A0_5 l0_5.length c0_5), (.slice A0_6 l0_6.length c0_6), (.slice A0_7 l0_7.length c0_7), (.slice A0_8 l0_8.length c0_8)] 41 (0, 0))) ∧ Aside0 (Below w.heap.size w wc))
        case first =>
          have H := HC9.out
          clear HC9
          by_cases c18 : t250 = true
          · subst c18
            have H1 : ((flow_Value.f k a0_0 l0_1 l0_7 a0_2).bind fun bt251 => (if bt251.2 = 0 then (if bt251.1 > a0_4 then (some false) else (codewrightlaw51_FlowSound.j0 k a0_0 l0_1 a0_2 a0_3 a0_4 l0_5 l0_6 l0_7 l0_8)) else (some false))) = some r := by rw [if_pos rfl] at H; exact H
            clear H
            have H := H1
            clear H1
            replace H := Option.bind_eq_some_iff.mp H
            obtain ⟨⟨t251, t252⟩, A190, H⟩ := H
            replace H : (if t252 = 0 then (if t251 > a0_4 then (some false) else (codewrightlaw51_FlowSound.j0 k a0_0 l0_1 a0_2 a0_3 a0_4 l0_5 l0_6 l0_7 l0_8)) else (some false)) = some r := H
            have A19 := Aside0.mk A190
            clear A190
            by_cases c20 : t252 = 0
            · rw [if_pos c20] at H
              have c20b0 : (t252 == 0) = true := beq_iff_eq.mpr c20
              have c20b1 : (t252 != 0) = false := bne_eq_false_iff_eq.mpr c20
              clear c20
              (first | rw [c20b0] | (simp only [i64_w, i32_w]; rw [c20b0]) | skip)
              by_cases c21 : t251 > a0_4
              · rw [if_pos c21] at H
                have c21b0 : decide (a0_4 < t251) = true := decide_eq_true c21
                clear c21
                obtain rfl := Option.some.inj H
                have hcz22_0 : w17.cell? ⟨gb246, 0, none⟩ = some (.int .i64 a0_0) := (blk_cell BK246.out 0).trans rfl
                have hcz22_1 : w17.cell? ⟨gb246, 1, none⟩ = some (.slice A0_1 l0_1.length c0_1) := (blk_cell BK246.out 1).trans rfl
                have hcz22_2 : w17.cell? ⟨gb246, 2, none⟩ = some (.int .i64 a0_2) := (blk_cell BK246.out 2).trans rfl
                have hcz22_3 : w17.cell? ⟨gb246, 3, none⟩ = some (.int .i64 a0_3) := (blk_cell BK246.out 3).trans rfl
                have hcz22_4 : w17.cell? ⟨gb246, 4, none⟩ = some (.int .i64 a0_4) := (blk_cell BK246.out 4).trans rfl
                have hcz22_5 : w17.cell? ⟨gb246, 5, none⟩ = some (.slice A0_5 l0_5.length c0_5) := (blk_cell BK246.out 5).trans rfl
                have hcz22_6 : w17.cell? ⟨gb246, 6, none⟩ = some (.slice A0_6 l0_6.length c0_6) := (blk_cell BK246.out 6).trans rfl
                have hcz22_7 : w17.cell? ⟨gb246, 7, none⟩ = some (.slice A0_7 l0_7.length c0_7) := (blk_cell BK246.out 7).trans rfl
                have hcz22_8 : w17.cell? ⟨gb246, 8, none⟩ = some (.slice A0_8 l0_8.length c0_8) := (blk_cell BK246.out 8).trans rfl
                have hfz22_0 := blk_frozen BK246.out 0
                have hfz22_1 := blk_frozen BK246.out 1
                have hfz22_2 := blk_frozen BK246.out 2
                have hfz22_3 := blk_frozen BK246.out 3
                have hfz22_4 := blk_frozen BK246.out 4
                have hfz22_5 := blk_frozen BK246.out 5
                have hfz22_6 := blk_frozen BK246.out 6
                have hfz22_7 := blk_frozen BK246.out 7
                have hfz22_8 := blk_frozen BK246.out 8
                go_wp2_with (first | ((with_reducible refine gate_callee (f := 19) rfl ?_); refine goesL_ (some 43) rfl rfl Try.func19 (by kernel_rfl) rfl #[.agg #[.int .i64 a0_0, .slice A0_1 l0_1.length c0_1], .slice A0_7 l0_7.length c0_7, .int .i64 a0_2] rfl (by (try simp only [List.map_toArray, List.map_cons, List.map_nil]); first | done | rfl | (simp only [List.length_drop, List.length_take]; rfl)) ?_; (with_reducible refine (flow_Value.calls k a0_0 _ _ l0_1 _ _ l0_7 a0_2 t251 t252 _ ?side1 ?side2 ?side3 ?side4 A19.out).mono ?_); (case side1 => repeat (first | exact (Kd.C_below HR0_1.out HB.out) | (with_reducible refine Kd.C_alloc ?_ _) | (with_reducible refine Kd.C_drewN ?_ _) | (with_reducible refine Kd.C_drew ?_))); (case side2 => exact HC0_1.out); (case side3 => repeat (first | exact (Kd.C_below HR0_7.out HB.out) | (with_reducible refine Kd.C_alloc ?_ _) | (with_reducible refine Kd.C_drewN ?_ _) | (with_reducible refine Kd.C_drew ?_))); (case side4 => exact HC0_7.out); rintro e w23 ⟨rfl, hb⟩; refine ⟨_, rfl, ?_⟩; have n0_ := Aside0.mk (blk_below (g := gb246) (o := .cells #[.int .i64 a0_0, .slice A0_1 l0_1.length c0_1, .int .i64 a0_2, .int .i64 a0_3, .int .i64 a0_4, .slice A0_5 l0_5.length c0_5, .slice A0_6 l0_6.length c0_6, .slice A0_7 l0_7.length c0_7, .slice A0_8 l0_8.length c0_8] 41 (0, 0)) (by (with_reducible repeat (first | refine blk_drewN ?_ _ | refine blk_drew ?_ | refine blk_alloc ?_ _)); exact BK246.out) hb); have n1_ := Aside0.mk (below_step (by repeat (first | (with_reducible first | exact HB.out | apply below_alloc | apply pw_below_drewN | apply below_drew1 | refine below_set ?_ GE246.out) | exact HB.out)) hb); clear BK246; clear HB; have BK246 := n0_; have HB := n1_; clear n0_ n1_; (try clear hb); (try clear hb2); (try clear hk); (try clear hi); have hcz24_0 : w23.cell? ⟨gb246, 0, none⟩ = some (.int .i64 a0_0) := (blk_cell BK246.out 0).trans rfl; have hcz24_1 : w23.cell? ⟨gb246, 1, none⟩ = some (.slice A0_1 l0_1.length c0_1) := (blk_cell BK246.out 1).trans rfl; have hcz24_2 : w23.cell? ⟨gb246, 2, none⟩ = some (.int .i64 a0_2) := (blk_cell BK246.out 2).trans rfl; have hcz24_3 : w23.cell? ⟨gb246, 3, none⟩ = some (.int .i64 a0_3) := (blk_cell BK246.out 3).trans rfl; have hcz24_4 : w23.cell? ⟨gb246, 4, none⟩ = some (.int .i64 a0_4) := (blk_cell BK246.out 4).trans rfl; have hcz24_5 : w23.cell? ⟨gb246, 5, none⟩ = some (.slice A0_5 l0_5.length c0_5) := (blk_cell BK246.out 5).trans rfl; have hcz24_6 : w23.cell? ⟨gb246, 6, none⟩ = some (.slice A0_6 l0_6.length c0_6) := (blk_cell BK246.out 6).trans rfl; have hcz24_7 : w23.cell? ⟨gb246, 7, none⟩ = some (.slice A0_7 l0_7.length c0_7) := (blk_cell BK246.out 7).trans rfl; have hcz24_8 : w23.cell? ⟨gb246, 8, none⟩ = some (.slice A0_8 l0_8.length c0_8) := (blk_cell BK246.out 8).trans rfl; have hfz24_0 := blk_frozen BK246.out 0; have hfz24_1 := blk_frozen BK246.out 1; have hfz24_2 := blk_frozen BK246.out 2; have hfz24_3 := blk_frozen BK246.out 3; have hfz24_4 := blk_frozen BK246.out 4; have hfz24_5 := blk_frozen BK246.out 5; have hfz24_6 := blk_frozen BK246.out 6; have hfz24_7 := blk_frozen BK246.out 7; have hfz24_8 := blk_frozen BK246.out 8))
                go_ret
                exact ⟨by first | rfl | (simp [errW_none, errW_some] <;> rfl) | (simp [*, errW_none, errW_some] <;> rfl), by repeat (first | (with_reducible first | exact HB.out | apply below_alloc | apply pw_below_drewN | apply below_drew1 | refine below_set ?_ GE246.out) | exact HB.out)⟩
              · rw [if_neg c21] at H
                have c21b0 : decide (a0_4 < t251) = false := decide_eq_false c21
                clear c21
                have H' := Aside0.mk H
                clear H
                have hcz25_0 : w17.cell? ⟨gb246, 0, none⟩ = some (.int .i64 a0_0) := (blk_cell BK246.out 0).trans rfl
                have hcz25_1 : w17.cell? ⟨gb246, 1, none⟩ = some (.slice A0_1 l0_1.length c0_1) := (blk_cell BK246.out 1).trans rfl
                have hcz25_2 : w17.cell? ⟨gb246, 2, none⟩ = some (.int .i64 a0_2) := (blk_cell BK246.out 2).trans rfl
                have hcz25_3 : w17.cell? ⟨gb246, 3, none⟩ = some (.int .i64 a0_3) := (blk_cell BK246.out 3).trans rfl
                have hcz25_4 : w17.cell? ⟨gb246, 4, none⟩ = some (.int .i64 a0_4) := (blk_cell BK246.out 4).trans rfl
                have hcz25_5 : w17.cell? ⟨gb246, 5, none⟩ = some (.slice A0_5 l0_5.length c0_5) := (blk_cell BK246.out 5).trans rfl
                have hcz25_6 : w17.cell? ⟨gb246, 6, none⟩ = some (.slice A0_6 l0_6.length c0_6) := (blk_cell BK246.out 6).trans rfl
                have hcz25_7 : w17.cell? ⟨gb246, 7, none⟩ = some (.slice A0_7 l0_7.length c0_7) := (blk_cell BK246.out 7).trans rfl
                have hcz25_8 : w17.cell? ⟨gb246, 8, none⟩ = some (.slice A0_8 l0_8.length c0_8) := (blk_cell BK246.out 8).trans rfl
                have hfz25_0 := blk_frozen BK246.out 0
                have hfz25_1 := blk_frozen BK246.out 1
                have hfz25_2 := blk_frozen BK246.out 2
                have hfz25_3 := blk_frozen BK246.out 3
                have hfz25_4 := blk_frozen BK246.out 4
                have hfz25_5 := blk_frozen BK246.out 5
                have hfz25_6 := blk_frozen BK246.out 6
                have hfz25_7 := blk_frozen BK246.out 7
                have hfz25_8 := blk_frozen BK246.out 8
                go_wp2_with (first | ((with_reducible refine gate_callee (f := 19) rfl ?_); refine goesL_ (some 43) rfl rfl Try.func19 (by kernel_rfl) rfl #[.agg #[.int .i64 a0_0, .slice A0_1 l0_1.length c0_1], .slice A0_7 l0_7.length c0_7, .int .i64 a0_2] rfl (by (try simp only [List.map_toArray, List.map_cons, List.map_nil]); first | done | rfl | (simp only [List.length_drop, List.length_take]; rfl)) ?_; (with_reducible refine (flow_Value.calls k a0_0 _ _ l0_1 _ _ l0_7 a0_2 t251 t252 _ ?side1 ?side2 ?side3 ?side4 A19.out).mono ?_); (case side1 => repeat (first | exact (Kd.C_below HR0_1.out HB.out) | (with_reducible refine Kd.C_alloc ?_ _) | (with_reducible refine Kd.C_drewN ?_ _) | (with_reducible refine Kd.C_drew ?_))); (case side2 => exact HC0_1.out); (case side3 => repeat (first | exact (Kd.C_below HR0_7.out HB.out) | (with_reducible refine Kd.C_alloc ?_ _) | (with_reducible refine Kd.C_drewN ?_ _) | (with_reducible refine Kd.C_drew ?_))); (case side4 => exact HC0_7.out); rintro e w26 ⟨rfl, hb⟩; refine ⟨_, rfl, ?_⟩; have n0_ := Aside0.mk (blk_below (g := gb246) (o := .cells #[.int .i64 a0_0, .slice A0_1 l0_1.length c0_1, .int .i64 a0_2, .int .i64 a0_3, .int .i64 a0_4, .slice A0_5 l0_5.length c0_5, .slice A0_6 l0_6.length c0_6, .slice A0_7 l0_7.length c0_7, .slice A0_8 l0_8.length c0_8] 41 (0, 0)) (by (with_reducible repeat (first | refine blk_drewN ?_ _ | refine blk_drew ?_ | refine blk_alloc ?_ _)); exact BK246.out) hb); have n1_ := Aside0.mk (below_step (by repeat (first | (with_reducible first | exact HB.out | apply below_alloc | apply pw_below_drewN | apply below_drew1 | refine below_set ?_ GE246.out) | exact HB.out)) hb); clear BK246; clear HB; have BK246 := n0_; have HB := n1_; clear n0_ n1_; (try clear hb); (try clear hb2); (try clear hk); (try clear hi); have hcz27_0 : w26.cell? ⟨gb246, 0, none⟩ = some (.int .i64 a0_0) := (blk_cell BK246.out 0).trans rfl; have hcz27_1 : w26.cell? ⟨gb246, 1, none⟩ = some (.slice A0_1 l0_1.length c0_1) := (blk_cell BK246.out 1).trans rfl; have hcz27_2 : w26.cell? ⟨gb246, 2, none⟩ = some (.int .i64 a0_2) := (blk_cell BK246.out 2).trans rfl; have hcz27_3 : w26.cell? ⟨gb246, 3, none⟩ = some (.int .i64 a0_3) := (blk_cell BK246.out 3).trans rfl; have hcz27_4 : w26.cell? ⟨gb246, 4, none⟩ = some (.int .i64 a0_4) := (blk_cell BK246.out 4).trans rfl; have hcz27_5 : w26.cell? ⟨gb246, 5, none⟩ = some (.slice A0_5 l0_5.length c0_5) := (blk_cell BK246.out 5).trans rfl; have hcz27_6 : w26.cell? ⟨gb246, 6, none⟩ = some (.slice A0_6 l0_6.length c0_6) := (blk_cell BK246.out 6).trans rfl; have hcz27_7 : w26.cell? ⟨gb246, 7, none⟩ = some (.slice A0_7 l0_7.length c0_7) := (blk_cell BK246.out 7).trans rfl; have hcz27_8 : w26.cell? ⟨gb246, 8, none⟩ = some (.slice A0_8 l0_8.length c0_8) := (blk_cell BK246.out 8).trans rfl; have hfz27_0 := blk_frozen BK246.out 0; have hfz27_1 := blk_frozen BK246.out 1; have hfz27_2 := blk_frozen BK246.out 2; have hfz27_3 := blk_frozen BK246.out 3; have hfz27_4 := blk_frozen BK246.out 4; have hfz27_5 := blk_frozen BK246.out 5; have hfz27_6 := blk_frozen BK246.out 6; have hfz27_7 := blk_frozen BK246.out 7; have hfz27_8 := blk_frozen BK246.out 8))
                go_meet
                case rel => exact ⟨_, H', ⟨by first | omega | exact Nat.le_refl _⟩, ⟨by (with_reducible repeat (first | refine blk_drewN ?_ _ | refine blk_drew ?_ | refine blk_alloc ?_ _)); exact BK246.out⟩, ⟨by repeat (first | (with_reducible first | exact HB.out | apply below_alloc | apply pw_below_drewN | apply below_drew1 | refine below_set ?_ GE246.out) | exact HB.out)⟩⟩
            · rw [if_neg c20] at H
              have c20b0 : (t252 == 0) = false := beq_eq_false_iff_ne.mpr c20
              have c20b1 : (t252 != 0) = true := bne_iff_ne.mpr c20
              (first | rw [c20b0] | (simp only [i64_w, i32_w]; rw [c20b0]) | skip)
              obtain rfl := Option.some.inj H
              have hcz28_0 : w17.cell? ⟨gb246, 0, none⟩ = some (.int .i64 a0_0) := (blk_cell BK246.out 0).trans rfl
              have hcz28_1 : w17.cell? ⟨gb246, 1, none⟩ = some (.slice A0_1 l0_1.length c0_1) := (blk_cell BK246.out 1).trans rfl
              have hcz28_2 : w17.cell? ⟨gb246, 2, none⟩ = some (.int .i64 a0_2) := (blk_cell BK246.out 2).trans rfl
              have hcz28_3 : w17.cell? ⟨gb246, 3, none⟩ = some (.int .i64 a0_3) := (blk_cell BK246.out 3).trans rfl
              have hcz28_4 : w17.cell? ⟨gb246, 4, none⟩ = some (.int .i64 a0_4) := (blk_cell BK246.out 4).trans rfl
              have hcz28_5 : w17.cell? ⟨gb246, 5, none⟩ = some (.slice A0_5 l0_5.length c0_5) := (blk_cell BK246.out 5).trans rfl
              have hcz28_6 : w17.cell? ⟨gb246, 6, none⟩ = some (.slice A0_6 l0_6.length c0_6) := (blk_cell BK246.out 6).trans rfl
              have hcz28_7 : w17.cell? ⟨gb246, 7, none⟩ = some (.slice A0_7 l0_7.length c0_7) := (blk_cell BK246.out 7).trans rfl
              have hcz28_8 : w17.cell? ⟨gb246, 8, none⟩ = some (.slice A0_8 l0_8.length c0_8) := (blk_cell BK246.out 8).trans rfl
              have hfz28_0 := blk_frozen BK246.out 0
              have hfz28_1 := blk_frozen BK246.out 1
              have hfz28_2 := blk_frozen BK246.out 2
              have hfz28_3 := blk_frozen BK246.out 3
              have hfz28_4 := blk_frozen BK246.out 4
              have hfz28_5 := blk_frozen BK246.out 5
              have hfz28_6 := blk_frozen BK246.out 6
              have hfz28_7 := blk_frozen BK246.out 7
              have hfz28_8 := blk_frozen BK246.out 8
              go_wp2_with (first | ((with_reducible refine gate_callee (f := 19) rfl ?_); refine goesL_ (some 43) rfl rfl Try.func19 (by kernel_rfl) rfl #[.agg #[.int .i64 a0_0, .slice A0_1 l0_1.length c0_1], .slice A0_7 l0_7.length c0_7, .int .i64 a0_2] rfl (by (try simp only [List.map_toArray, List.map_cons, List.map_nil]); first | done | rfl | (simp only [List.length_drop, List.length_take]; rfl)) ?_; (with_reducible refine (flow_Value.calls k a0_0 _ _ l0_1 _ _ l0_7 a0_2 t251 t252 _ ?side1 ?side2 ?side3 ?side4 A19.out).mono ?_); (case side1 => repeat (first | exact (Kd.C_below HR0_1.out HB.out) | (with_reducible refine Kd.C_alloc ?_ _) | (with_reducible refine Kd.C_drewN ?_ _) | (with_reducible refine Kd.C_drew ?_))); (case side2 => exact HC0_1.out); (case side3 => repeat (first | exact (Kd.C_below HR0_7.out HB.out) | (with_reducible refine Kd.C_alloc ?_ _) | (with_reducible refine Kd.C_drewN ?_ _) | (with_reducible refine Kd.C_drew ?_))); (case side4 => exact HC0_7.out); rintro e w29 ⟨rfl, hb⟩; refine ⟨_, rfl, ?_⟩; have n0_ := Aside0.mk (blk_below (g := gb246) (o := .cells #[.int .i64 a0_0, .slice A0_1 l0_1.length c0_1, .int .i64 a0_2, .int .i64 a0_3, .int .i64 a0_4, .slice A0_5 l0_5.length c0_5, .slice A0_6 l0_6.length c0_6, .slice A0_7 l0_7.length c0_7, .slice A0_8 l0_8.length c0_8] 41 (0, 0)) (by (with_reducible repeat (first | refine blk_drewN ?_ _ | refine blk_drew ?_ | refine blk_alloc ?_ _)); exact BK246.out) hb); have n1_ := Aside0.mk (below_step (by repeat (first | (with_reducible first | exact HB.out | apply below_alloc | apply pw_below_drewN | apply below_drew1 | refine below_set ?_ GE246.out) | exact HB.out)) hb); clear BK246; clear HB; have BK246 := n0_; have HB := n1_; clear n0_ n1_; (try clear hb); (try clear hb2); (try clear hk); (try clear hi)))
              go_ret
              exact ⟨by first | rfl | (simp [errW_none, errW_some] <;> rfl) | (simp [*, errW_none, errW_some] <;> rfl), by repeat (first | (with_reducible first | exact HB.out | apply below_alloc | apply pw_below_drewN | apply below_drew1 | refine below_set ?_ GE246.out) | exact HB.out)⟩
          · replace c18 := Bool.eq_false_iff.mpr c18
            subst c18
            have H1 : (codewrightlaw51_FlowSound.j0 k a0_0 l0_1 a0_2 a0_3 a0_4 l0_5 l0_6 l0_7 l0_8) = some r := by rw [if_neg (show ¬ (false = true) by decide)] at H; exact H
            clear H
            have H := H1
            clear H1
            have H' := Aside0.mk H
            clear H
            go_wp2
            go_meet
            case rel => exact ⟨_, H', ⟨by first | omega | exact Nat.le_refl _⟩, ⟨by (with_reducible repeat (first | refine blk_drewN ?_ _ | refine blk_drew ?_ | refine blk_alloc ?_ _)); exact BK246.out⟩, ⟨by repeat (first | (with_reducible first | exact HB.out | apply below_alloc | apply pw_below_drewN | apply below_drew1 | refine below_set ?_ GE246.out) | exact HB.out)⟩⟩
        case rest =>
          clear HC9
          try clear c1
          try clear c2
          try clear p2
          try clear c3
          try clear c5
          try clear c5b0
          try clear c5b1
          try clear c7
          try clear c7b0
          try clear c7b1
          try clear c8
          try clear c18
          try clear c19
          try clear c20
          try clear c20b0
          try clear c20b1
          try clear c21
          try clear c21b0
          try clear c22
          try clear c24
          try clear hcz12_0
          try clear hcz12_1
          try clear hcz12_2
          try clear hcz12_3
          try clear hcz12_4
          try clear hcz12_5
          try clear hcz12_6
          try clear hcz12_7
          try clear hcz12_8
          try clear hcz14_0
          try clear hcz14_1
          try clear hcz14_2
          try clear hcz14_3
          try clear hcz14_4
          try clear hcz14_5
          try clear hcz14_6
          try clear hcz14_7
          try clear hcz14_8
          try clear hcz16_0
          try clear hcz16_1
          try clear hcz16_2
          try clear hcz16_3
          try clear hcz16_4
          try clear hcz16_5
          try clear hcz16_6
          try clear hcz16_7
          try clear hcz16_8
          try clear hcz22_0
          try clear hcz22_1
          try clear hcz22_2
          try clear hcz22_3
          try clear hcz22_4
          try clear hcz22_5
          try clear hcz22_6
          try clear hcz22_7
          try clear hcz22_8
          try clear hcz24_0
          try clear hcz24_1
          try clear hcz24_2
          try clear hcz24_3
          try clear hcz24_4
          try clear hcz24_5
          try clear hcz24_6
          try clear hcz24_7
          try clear hcz24_8
          try clear hcz25_0
          try clear hcz25_1
          try clear hcz25_2
          try clear hcz25_3
          try clear hcz25_4
          try clear hcz25_5
          try clear hcz25_6
          try clear hcz25_7
          try clear hcz25_8
          try clear hcz27_0
          try clear hcz27_1
          try clear hcz27_2
          try clear hcz27_3
          try clear hcz27_4
          try clear hcz27_5
          try clear hcz27_6
          try clear hcz27_7
          try clear hcz27_8
          try clear hcz28_0
          try clear hcz28_1
          try clear hcz28_2
          try clear hcz28_3
          try clear hcz28_4
          try clear hcz28_5
          try clear hcz28_6
          try clear hcz28_7
          try clear hcz28_8
          try clear hfz12_0
          try clear hfz12_1
          try clear hfz12_2
          try clear hfz12_3
          try clear hfz12_4
          try clear hfz12_5
          try clear hfz12_6
          try clear hfz12_7
          try clear hfz12_8
          try clear hfz14_0
          try clear hfz14_1
          try clear hfz14_2
          try clear hfz14_3
          try clear hfz14_4
          try clear hfz14_5
          try clear hfz14_6
          try clear hfz14_7
          try clear hfz14_8
          try clear hfz16_0
          try clear hfz16_1
          try clear hfz16_2
          try clear hfz16_3
          try clear hfz16_4
          try clear hfz16_5
          try clear hfz16_6
          try clear hfz16_7
          try clear hfz16_8
          try clear hfz22_0
          try clear hfz22_1
          try clear hfz22_2
          try clear hfz22_3
          try clear hfz22_4
          try clear hfz22_5
          try clear hfz22_6
          try clear hfz22_7
          try clear hfz22_8
          try clear hfz24_0
          try clear hfz24_1
          try clear hfz24_2
          try clear hfz24_3
          try clear hfz24_4
          try clear hfz24_5
          try clear hfz24_6
          try clear hfz24_7
          try clear hfz24_8
          try clear hfz25_0
          try clear hfz25_1
          try clear hfz25_2
          try clear hfz25_3
          try clear hfz25_4
          try clear hfz25_5
          try clear hfz25_6
          try clear hfz25_7
          try clear hfz25_8
          try clear hfz27_0
          try clear hfz27_1
          try clear hfz27_2
          try clear hfz27_3
          try clear hfz27_4
          try clear hfz27_5
          try clear hfz27_6
          try clear hfz27_7
          try clear hfz27_8
          try clear hfz28_0
          try clear hfz28_1
          try clear hfz28_2
          try clear hfz28_3
          try clear hfz28_4
          try clear hfz28_5
          try clear hfz28_6
          try clear hfz28_7
          try clear hfz28_8
          obtain ⟨kq, HA, HJ8, BK246, HB⟩ := hcut
          cases kq with
          | zero => exact absurd HA.out (by simp [codewrightlaw51_FlowSound.j0])
          | succ kj8 =>
            have H := HA.out
            clear HA
            simp only [codewrightlaw51_FlowSound.j0] at H
            replace H := Option.bind_eq_some_iff.mp H
            obtain ⟨t253, A300, H⟩ := H
            replace H : (if t253 = true then ((flow_Cut.f kj8 a0_0 l0_1 l0_8).bind fun bt254 => (if bt254.2 = 0 then (if bt254.1 < a0_4 then (some false) else (some true)) else (some false))) else (some true)) = some r := H
            have A30 := Aside0.mk A300
            clear A300
            by_cases c31 : t253 = true
            · subst c31
              have H1 : ((flow_Cut.f kj8 a0_0 l0_1 l0_8).bind fun bt254 => (if bt254.2 = 0 then (if bt254.1 < a0_4 then (some false) else (some true)) else (some false))) = some r := by rw [if_pos rfl] at H; exact H
              clear H
              have H := H1
              clear H1
              replace H := Option.bind_eq_some_iff.mp H
              obtain ⟨⟨t254, t255⟩, A320, H⟩ := H
              replace H : (if t255 = 0 then (if t254 < a0_4 then (some false) else (some true)) else (some false)) = some r := H
              have A32 := Aside0.mk A320
              clear A320
              by_cases c33 : t255 = 0
              · rw [if_pos c33] at H
                have c33b0 : (t255 == 0) = true := beq_iff_eq.mpr c33
                have c33b1 : (t255 != 0) = false := bne_eq_false_iff_eq.mpr c33
                clear c33
                by_cases c34 : t254 < a0_4
                · rw [if_pos c34] at H
                  have c34b0 : decide (t254 < a0_4) = true := decide_eq_true c34
                  clear c34
                  obtain rfl := Option.some.inj H
                  have hcz35_0 : wc.cell? ⟨gb246, 0, none⟩ = some (.int .i64 a0_0) := (blk_cell BK246.out 0).trans rfl
                  have hcz35_1 : wc.cell? ⟨gb246, 1, none⟩ = some (.slice A0_1 l0_1.length c0_1) := (blk_cell BK246.out 1).trans rfl
                  have hcz35_2 : wc.cell? ⟨gb246, 2, none⟩ = some (.int .i64 a0_2) := (blk_cell BK246.out 2).trans rfl
                  have hcz35_3 : wc.cell? ⟨gb246, 3, none⟩ = some (.int .i64 a0_3) := (blk_cell BK246.out 3).trans rfl
                  have hcz35_4 : wc.cell? ⟨gb246, 4, none⟩ = some (.int .i64 a0_4) := (blk_cell BK246.out 4).trans rfl
                  have hcz35_5 : wc.cell? ⟨gb246, 5, none⟩ = some (.slice A0_5 l0_5.length c0_5) := (blk_cell BK246.out 5).trans rfl
                  have hcz35_6 : wc.cell? ⟨gb246, 6, none⟩ = some (.slice A0_6 l0_6.length c0_6) := (blk_cell BK246.out 6).trans rfl
                  have hcz35_7 : wc.cell? ⟨gb246, 7, none⟩ = some (.slice A0_7 l0_7.length c0_7) := (blk_cell BK246.out 7).trans rfl
                  have hcz35_8 : wc.cell? ⟨gb246, 8, none⟩ = some (.slice A0_8 l0_8.length c0_8) := (blk_cell BK246.out 8).trans rfl
                  have hfz35_0 := blk_frozen BK246.out 0
                  have hfz35_1 := blk_frozen BK246.out 1
                  have hfz35_2 := blk_frozen BK246.out 2
                  have hfz35_3 := blk_frozen BK246.out 3
                  have hfz35_4 := blk_frozen BK246.out 4
                  have hfz35_5 := blk_frozen BK246.out 5
                  have hfz35_6 := blk_frozen BK246.out 6
                  have hfz35_7 := blk_frozen BK246.out 7
                  have hfz35_8 := blk_frozen BK246.out 8
                  go_wp2_with (first | ((with_reducible refine gate_callee (f := 23) rfl ?_); refine goesL_ (some 63) rfl rfl Try.func23 (by kernel_rfl) rfl #[.agg #[.int .i64 a0_0, .slice A0_1 l0_1.length c0_1], .int .i64 a0_2, .int .i64 a0_3, .slice A0_8 l0_8.length c0_8] rfl (by (try simp only [List.map_toArray, List.map_cons, List.map_nil]); first | done | rfl | (simp only [List.length_drop, List.length_take]; rfl)) ?_; (with_reducible refine (codewrightref51_IsCut.calls a0_0 _ _ l0_1 a0_2 a0_3 _ _ l0_8 true _ ?side1 ?side2 ?side3 ?side4 A30.out).mono ?_); (case side1 => repeat (first | exact (Kd.C_below HR0_1.out HB.out) | (with_reducible refine Kd.C_alloc ?_ _) | (with_reducible refine Kd.C_drewN ?_ _) | (with_reducible refine Kd.C_drew ?_))); (case side2 => exact HC0_1.out); (case side3 => repeat (first | exact (Kd.C_below HR0_8.out HB.out) | (with_reducible refine Kd.C_alloc ?_ _) | (with_reducible refine Kd.C_drewN ?_ _) | (with_reducible refine Kd.C_drew ?_))); (case side4 => exact HC0_8.out); rintro e w36 ⟨rfl, hb⟩; refine ⟨_, rfl, ?_⟩; have n0_ := Aside0.mk (blk_below (g := gb246) (o := .cells #[.int .i64 a0_0, .slice A0_1 l0_1.length c0_1, .int .i64 a0_2, .int .i64 a0_3, .int .i64 a0_4, .slice A0_5 l0_5.length c0_5, .slice A0_6 l0_6.length c0_6, .slice A0_7 l0_7.length c0_7, .slice A0_8 l0_8.length c0_8] 41 (0, 0)) (by (with_reducible repeat (first | refine blk_drewN ?_ _ | refine blk_drew ?_ | refine blk_alloc ?_ _)); exact BK246.out) hb); have n1_ := Aside0.mk (below_step (by repeat (first | (with_reducible first | exact HB.out | apply below_alloc | apply pw_below_drewN | apply below_drew1 | refine below_set ?_ GE246.out) | exact HB.out)) hb); clear BK246; clear HB; have BK246 := n0_; have HB := n1_; clear n0_ n1_; (try clear hb); (try clear hb2); (try clear hk); (try clear hi); have hcz37_0 : w36.cell? ⟨gb246, 0, none⟩ = some (.int .i64 a0_0) := (blk_cell BK246.out 0).trans rfl; have hcz37_1 : w36.cell? ⟨gb246, 1, none⟩ = some (.slice A0_1 l0_1.length c0_1) := (blk_cell BK246.out 1).trans rfl; have hcz37_2 : w36.cell? ⟨gb246, 2, none⟩ = some (.int .i64 a0_2) := (blk_cell BK246.out 2).trans rfl; have hcz37_3 : w36.cell? ⟨gb246, 3, none⟩ = some (.int .i64 a0_3) := (blk_cell BK246.out 3).trans rfl; have hcz37_4 : w36.cell? ⟨gb246, 4, none⟩ = some (.int .i64 a0_4) := (blk_cell BK246.out 4).trans rfl; have hcz37_5 : w36.cell? ⟨gb246, 5, none⟩ = some (.slice A0_5 l0_5.length c0_5) := (blk_cell BK246.out 5).trans rfl; have hcz37_6 : w36.cell? ⟨gb246, 6, none⟩ = some (.slice A0_6 l0_6.length c0_6) := (blk_cell BK246.out 6).trans rfl; have hcz37_7 : w36.cell? ⟨gb246, 7, none⟩ = some (.slice A0_7 l0_7.length c0_7) := (blk_cell BK246.out 7).trans rfl; have hcz37_8 : w36.cell? ⟨gb246, 8, none⟩ = some (.slice A0_8 l0_8.length c0_8) := (blk_cell BK246.out 8).trans rfl; have hfz37_0 := blk_frozen BK246.out 0; have hfz37_1 := blk_frozen BK246.out 1; have hfz37_2 := blk_frozen BK246.out 2; have hfz37_3 := blk_frozen BK246.out 3; have hfz37_4 := blk_frozen BK246.out 4; have hfz37_5 := blk_frozen BK246.out 5; have hfz37_6 := blk_frozen BK246.out 6; have hfz37_7 := blk_frozen BK246.out 7; have hfz37_8 := blk_frozen BK246.out 8) | ((with_reducible refine gate_callee (f := 16) rfl ?_); refine goesL_ (some 69) rfl rfl Try.func16 (by kernel_rfl) rfl #[.agg #[.int .i64 a0_0, .slice A0_1 l0_1.length c0_1], .slice A0_8 l0_8.length c0_8] rfl (by (try simp only [List.map_toArray, List.map_cons, List.map_nil]); first | done | rfl | (simp only [List.length_drop, List.length_take]; rfl)) ?_; (with_reducible refine (flow_Cut.calls kj8 a0_0 _ _ l0_1 _ _ l0_8 t254 t255 _ ?side1 ?side2 ?side3 ?side4 A32.out).mono ?_); (case side1 => repeat (first | exact (Kd.C_below HR0_1.out HB.out) | (with_reducible refine Kd.C_alloc ?_ _) | (with_reducible refine Kd.C_drewN ?_ _) | (with_reducible refine Kd.C_drew ?_))); (case side2 => exact HC0_1.out); (case side3 => repeat (first | exact (Kd.C_below HR0_8.out HB.out) | (with_reducible refine Kd.C_alloc ?_ _) | (with_reducible refine Kd.C_drewN ?_ _) | (with_reducible refine Kd.C_drew ?_))); (case side4 => exact HC0_8.out); rintro e w38 ⟨rfl, hb⟩; refine ⟨_, rfl, ?_⟩; have n0_ := Aside0.mk (blk_below (g := gb246) (o := .cells #[.int .i64 a0_0, .slice A0_1 l0_1.length c0_1, .int .i64 a0_2, .int .i64 a0_3, .int .i64 a0_4, .slice A0_5 l0_5.length c0_5, .slice A0_6 l0_6.length c0_6, .slice A0_7 l0_7.length c0_7, .slice A0_8 l0_8.length c0_8] 41 (0, 0)) (by (with_reducible repeat (first | refine blk_drewN ?_ _ | refine blk_drew ?_ | refine blk_alloc ?_ _)); exact BK246.out) hb); have n1_ := Aside0.mk (below_step (by repeat (first | (with_reducible first | exact HB.out | apply below_alloc | apply pw_below_drewN | apply below_drew1 | refine below_set ?_ GE246.out) | exact HB.out)) hb); clear BK246; clear HB; have BK246 := n0_; have HB := n1_; clear n0_ n1_; (try clear hb); (try clear hb2); (try clear hk); (try clear hi); have hcz39_0 : w38.cell? ⟨gb246, 0, none⟩ = some (.int .i64 a0_0) := (blk_cell BK246.out 0).trans rfl; have hcz39_1 : w38.cell? ⟨gb246, 1, none⟩ = some (.slice A0_1 l0_1.length c0_1) := (blk_cell BK246.out 1).trans rfl; have hcz39_2 : w38.cell? ⟨gb246, 2, none⟩ = some (.int .i64 a0_2) := (blk_cell BK246.out 2).trans rfl; have hcz39_3 : w38.cell? ⟨gb246, 3, none⟩ = some (.int .i64 a0_3) := (blk_cell BK246.out 3).trans rfl; have hcz39_4 : w38.cell? ⟨gb246, 4, none⟩ = some (.int .i64 a0_4) := (blk_cell BK246.out 4).trans rfl; have hcz39_5 : w38.cell? ⟨gb246, 5, none⟩ = some (.slice A0_5 l0_5.length c0_5) := (blk_cell BK246.out 5).trans rfl; have hcz39_6 : w38.cell? ⟨gb246, 6, none⟩ = some (.slice A0_6 l0_6.length c0_6) := (blk_cell BK246.out 6).trans rfl; have hcz39_7 : w38.cell? ⟨gb246, 7, none⟩ = some (.slice A0_7 l0_7.length c0_7) := (blk_cell BK246.out 7).trans rfl; have hcz39_8 : w38.cell? ⟨gb246, 8, none⟩ = some (.slice A0_8 l0_8.length c0_8) := (blk_cell BK246.out 8).trans rfl; have hfz39_0 := blk_frozen BK246.out 0; have hfz39_1 := blk_frozen BK246.out 1; have hfz39_2 := blk_frozen BK246.out 2; have hfz39_3 := blk_frozen BK246.out 3; have hfz39_4 := blk_frozen BK246.out 4; have hfz39_5 := blk_frozen BK246.out 5; have hfz39_6 := blk_frozen BK246.out 6; have hfz39_7 := blk_frozen BK246.out 7; have hfz39_8 := blk_frozen BK246.out 8))
                  go_ret
                  exact ⟨by first | rfl | (simp [errW_none, errW_some] <;> rfl) | (simp [*, errW_none, errW_some] <;> rfl), by repeat (first | (with_reducible first | exact HB.out | apply below_alloc | apply pw_below_drewN | apply below_drew1 | refine below_set ?_ GE246.out) | exact HB.out)⟩
                · rw [if_neg c34] at H
                  have c34b0 : decide (t254 < a0_4) = false := decide_eq_false c34
                  clear c34
                  obtain rfl := Option.some.inj H
                  have hcz40_0 : wc.cell? ⟨gb246, 0, none⟩ = some (.int .i64 a0_0) := (blk_cell BK246.out 0).trans rfl
                  have hcz40_1 : wc.cell? ⟨gb246, 1, none⟩ = some (.slice A0_1 l0_1.length c0_1) := (blk_cell BK246.out 1).trans rfl
                  have hcz40_2 : wc.cell? ⟨gb246, 2, none⟩ = some (.int .i64 a0_2) := (blk_cell BK246.out 2).trans rfl
                  have hcz40_3 : wc.cell? ⟨gb246, 3, none⟩ = some (.int .i64 a0_3) := (blk_cell BK246.out 3).trans rfl
                  have hcz40_4 : wc.cell? ⟨gb246, 4, none⟩ = some (.int .i64 a0_4) := (blk_cell BK246.out 4).trans rfl
                  have hcz40_5 : wc.cell? ⟨gb246, 5, none⟩ = some (.slice A0_5 l0_5.length c0_5) := (blk_cell BK246.out 5).trans rfl
                  have hcz40_6 : wc.cell? ⟨gb246, 6, none⟩ = some (.slice A0_6 l0_6.length c0_6) := (blk_cell BK246.out 6).trans rfl
                  have hcz40_7 : wc.cell? ⟨gb246, 7, none⟩ = some (.slice A0_7 l0_7.length c0_7) := (blk_cell BK246.out 7).trans rfl
                  have hcz40_8 : wc.cell? ⟨gb246, 8, none⟩ = some (.slice A0_8 l0_8.length c0_8) := (blk_cell BK246.out 8).trans rfl
                  have hfz40_0 := blk_frozen BK246.out 0
                  have hfz40_1 := blk_frozen BK246.out 1
                  have hfz40_2 := blk_frozen BK246.out 2
                  have hfz40_3 := blk_frozen BK246.out 3
                  have hfz40_4 := blk_frozen BK246.out 4
                  have hfz40_5 := blk_frozen BK246.out 5
                  have hfz40_6 := blk_frozen BK246.out 6
                  have hfz40_7 := blk_frozen BK246.out 7
                  have hfz40_8 := blk_frozen BK246.out 8
                  go_wp2_with (first | ((with_reducible refine gate_callee (f := 23) rfl ?_); refine goesL_ (some 63) rfl rfl Try.func23 (by kernel_rfl) rfl #[.agg #[.int .i64 a0_0, .slice A0_1 l0_1.length c0_1], .int .i64 a0_2, .int .i64 a0_3, .slice A0_8 l0_8.length c0_8] rfl (by (try simp only [List.map_toArray, List.map_cons, List.map_nil]); first | done | rfl | (simp only [List.length_drop, List.length_take]; rfl)) ?_; (with_reducible refine (codewrightref51_IsCut.calls a0_0 _ _ l0_1 a0_2 a0_3 _ _ l0_8 true _ ?side1 ?side2 ?side3 ?side4 A30.out).mono ?_); (case side1 => repeat (first | exact (Kd.C_below HR0_1.out HB.out) | (with_reducible refine Kd.C_alloc ?_ _) | (with_reducible refine Kd.C_drewN ?_ _) | (with_reducible refine Kd.C_drew ?_))); (case side2 => exact HC0_1.out); (case side3 => repeat (first | exact (Kd.C_below HR0_8.out HB.out) | (with_reducible refine Kd.C_alloc ?_ _) | (with_reducible refine Kd.C_drewN ?_ _) | (with_reducible refine Kd.C_drew ?_))); (case side4 => exact HC0_8.out); rintro e w41 ⟨rfl, hb⟩; refine ⟨_, rfl, ?_⟩; have n0_ := Aside0.mk (blk_below (g := gb246) (o := .cells #[.int .i64 a0_0, .slice A0_1 l0_1.length c0_1, .int .i64 a0_2, .int .i64 a0_3, .int .i64 a0_4, .slice A0_5 l0_5.length c0_5, .slice A0_6 l0_6.length c0_6, .slice A0_7 l0_7.length c0_7, .slice A0_8 l0_8.length c0_8] 41 (0, 0)) (by (with_reducible repeat (first | refine blk_drewN ?_ _ | refine blk_drew ?_ | refine blk_alloc ?_ _)); exact BK246.out) hb); have n1_ := Aside0.mk (below_step (by repeat (first | (with_reducible first | exact HB.out | apply below_alloc | apply pw_below_drewN | apply below_drew1 | refine below_set ?_ GE246.out) | exact HB.out)) hb); clear BK246; clear HB; have BK246 := n0_; have HB := n1_; clear n0_ n1_; (try clear hb); (try clear hb2); (try clear hk); (try clear hi); have hcz42_0 : w41.cell? ⟨gb246, 0, none⟩ = some (.int .i64 a0_0) := (blk_cell BK246.out 0).trans rfl; have hcz42_1 : w41.cell? ⟨gb246, 1, none⟩ = some (.slice A0_1 l0_1.length c0_1) := (blk_cell BK246.out 1).trans rfl; have hcz42_2 : w41.cell? ⟨gb246, 2, none⟩ = some (.int .i64 a0_2) := (blk_cell BK246.out 2).trans rfl; have hcz42_3 : w41.cell? ⟨gb246, 3, none⟩ = some (.int .i64 a0_3) := (blk_cell BK246.out 3).trans rfl; have hcz42_4 : w41.cell? ⟨gb246, 4, none⟩ = some (.int .i64 a0_4) := (blk_cell BK246.out 4).trans rfl; have hcz42_5 : w41.cell? ⟨gb246, 5, none⟩ = some (.slice A0_5 l0_5.length c0_5) := (blk_cell BK246.out 5).trans rfl; have hcz42_6 : w41.cell? ⟨gb246, 6, none⟩ = some (.slice A0_6 l0_6.length c0_6) := (blk_cell BK246.out 6).trans rfl; have hcz42_7 : w41.cell? ⟨gb246, 7, none⟩ = some (.slice A0_7 l0_7.length c0_7) := (blk_cell BK246.out 7).trans rfl; have hcz42_8 : w41.cell? ⟨gb246, 8, none⟩ = some (.slice A0_8 l0_8.length c0_8) := (blk_cell BK246.out 8).trans rfl; have hfz42_0 := blk_frozen BK246.out 0; have hfz42_1 := blk_frozen BK246.out 1; have hfz42_2 := blk_frozen BK246.out 2; have hfz42_3 := blk_frozen BK246.out 3; have hfz42_4 := blk_frozen BK246.out 4; have hfz42_5 := blk_frozen BK246.out 5; have hfz42_6 := blk_frozen BK246.out 6; have hfz42_7 := blk_frozen BK246.out 7; have hfz42_8 := blk_frozen BK246.out 8) | ((with_reducible refine gate_callee (f := 16) rfl ?_); refine goesL_ (some 69) rfl rfl Try.func16 (by kernel_rfl) rfl #[.agg #[.int .i64 a0_0, .slice A0_1 l0_1.length c0_1], .slice A0_8 l0_8.length c0_8] rfl (by (try simp only [List.map_toArray, List.map_cons, List.map_nil]); first | done | rfl | (simp only [List.length_drop, List.length_take]; rfl)) ?_; (with_reducible refine (flow_Cut.calls kj8 a0_0 _ _ l0_1 _ _ l0_8 t254 t255 _ ?side1 ?side2 ?side3 ?side4 A32.out).mono ?_); (case side1 => repeat (first | exact (Kd.C_below HR0_1.out HB.out) | (with_reducible refine Kd.C_alloc ?_ _) | (with_reducible refine Kd.C_drewN ?_ _) | (with_reducible refine Kd.C_drew ?_))); (case side2 => exact HC0_1.out); (case side3 => repeat (first | exact (Kd.C_below HR0_8.out HB.out) | (with_reducible refine Kd.C_alloc ?_ _) | (with_reducible refine Kd.C_drewN ?_ _) | (with_reducible refine Kd.C_drew ?_))); (case side4 => exact HC0_8.out); rintro e w43 ⟨rfl, hb⟩; refine ⟨_, rfl, ?_⟩; have n0_ := Aside0.mk (blk_below (g := gb246) (o := .cells #[.int .i64 a0_0, .slice A0_1 l0_1.length c0_1, .int .i64 a0_2, .int .i64 a0_3, .int .i64 a0_4, .slice A0_5 l0_5.length c0_5, .slice A0_6 l0_6.length c0_6, .slice A0_7 l0_7.length c0_7, .slice A0_8 l0_8.length c0_8] 41 (0, 0)) (by (with_reducible repeat (first | refine blk_drewN ?_ _ | refine blk_drew ?_ | refine blk_alloc ?_ _)); exact BK246.out) hb); have n1_ := Aside0.mk (below_step (by repeat (first | (with_reducible first | exact HB.out | apply below_alloc | apply pw_below_drewN | apply below_drew1 | refine below_set ?_ GE246.out) | exact HB.out)) hb); clear BK246; clear HB; have BK246 := n0_; have HB := n1_; clear n0_ n1_; (try clear hb); (try clear hb2); (try clear hk); (try clear hi); have hcz44_0 : w43.cell? ⟨gb246, 0, none⟩ = some (.int .i64 a0_0) := (blk_cell BK246.out 0).trans rfl; have hcz44_1 : w43.cell? ⟨gb246, 1, none⟩ = some (.slice A0_1 l0_1.length c0_1) := (blk_cell BK246.out 1).trans rfl; have hcz44_2 : w43.cell? ⟨gb246, 2, none⟩ = some (.int .i64 a0_2) := (blk_cell BK246.out 2).trans rfl; have hcz44_3 : w43.cell? ⟨gb246, 3, none⟩ = some (.int .i64 a0_3) := (blk_cell BK246.out 3).trans rfl; have hcz44_4 : w43.cell? ⟨gb246, 4, none⟩ = some (.int .i64 a0_4) := (blk_cell BK246.out 4).trans rfl; have hcz44_5 : w43.cell? ⟨gb246, 5, none⟩ = some (.slice A0_5 l0_5.length c0_5) := (blk_cell BK246.out 5).trans rfl; have hcz44_6 : w43.cell? ⟨gb246, 6, none⟩ = some (.slice A0_6 l0_6.length c0_6) := (blk_cell BK246.out 6).trans rfl; have hcz44_7 : w43.cell? ⟨gb246, 7, none⟩ = some (.slice A0_7 l0_7.length c0_7) := (blk_cell BK246.out 7).trans rfl; have hcz44_8 : w43.cell? ⟨gb246, 8, none⟩ = some (.slice A0_8 l0_8.length c0_8) := (blk_cell BK246.out 8).trans rfl; have hfz44_0 := blk_frozen BK246.out 0; have hfz44_1 := blk_frozen BK246.out 1; have hfz44_2 := blk_frozen BK246.out 2; have hfz44_3 := blk_frozen BK246.out 3; have hfz44_4 := blk_frozen BK246.out 4; have hfz44_5 := blk_frozen BK246.out 5; have hfz44_6 := blk_frozen BK246.out 6; have hfz44_7 := blk_frozen BK246.out 7; have hfz44_8 := blk_frozen BK246.out 8))
                  go_ret
                  exact ⟨by first | rfl | (simp [errW_none, errW_some] <;> rfl) | (simp [*, errW_none, errW_some] <;> rfl), by repeat (first | (with_reducible first | exact HB.out | apply below_alloc | apply pw_below_drewN | apply below_drew1 | refine below_set ?_ GE246.out) | exact HB.out)⟩
              · rw [if_neg c33] at H
                have c33b0 : (t255 == 0) = false := beq_eq_false_iff_ne.mpr c33
                have c33b1 : (t255 != 0) = true := bne_iff_ne.mpr c33
                obtain rfl := Option.some.inj H
                have hcz45_0 : wc.cell? ⟨gb246, 0, none⟩ = some (.int .i64 a0_0) := (blk_cell BK246.out 0).trans rfl
                have hcz45_1 : wc.cell? ⟨gb246, 1, none⟩ = some (.slice A0_1 l0_1.length c0_1) := (blk_cell BK246.out 1).trans rfl
                have hcz45_2 : wc.cell? ⟨gb246, 2, none⟩ = some (.int .i64 a0_2) := (blk_cell BK246.out 2).trans rfl
                have hcz45_3 : wc.cell? ⟨gb246, 3, none⟩ = some (.int .i64 a0_3) := (blk_cell BK246.out 3).trans rfl
                have hcz45_4 : wc.cell? ⟨gb246, 4, none⟩ = some (.int .i64 a0_4) := (blk_cell BK246.out 4).trans rfl
                have hcz45_5 : wc.cell? ⟨gb246, 5, none⟩ = some (.slice A0_5 l0_5.length c0_5) := (blk_cell BK246.out 5).trans rfl
                have hcz45_6 : wc.cell? ⟨gb246, 6, none⟩ = some (.slice A0_6 l0_6.length c0_6) := (blk_cell BK246.out 6).trans rfl
                have hcz45_7 : wc.cell? ⟨gb246, 7, none⟩ = some (.slice A0_7 l0_7.length c0_7) := (blk_cell BK246.out 7).trans rfl
                have hcz45_8 : wc.cell? ⟨gb246, 8, none⟩ = some (.slice A0_8 l0_8.length c0_8) := (blk_cell BK246.out 8).trans rfl
                have hfz45_0 := blk_frozen BK246.out 0
                have hfz45_1 := blk_frozen BK246.out 1
                have hfz45_2 := blk_frozen BK246.out 2
                have hfz45_3 := blk_frozen BK246.out 3
                have hfz45_4 := blk_frozen BK246.out 4
                have hfz45_5 := blk_frozen BK246.out 5
                have hfz45_6 := blk_frozen BK246.out 6
                have hfz45_7 := blk_frozen BK246.out 7
                have hfz45_8 := blk_frozen BK246.out 8
                go_wp2_with (first | ((with_reducible refine gate_callee (f := 23) rfl ?_); refine goesL_ (some 63) rfl rfl Try.func23 (by kernel_rfl) rfl #[.agg #[.int .i64 a0_0, .slice A0_1 l0_1.length c0_1], .int .i64 a0_2, .int .i64 a0_3, .slice A0_8 l0_8.length c0_8] rfl (by (try simp only [List.map_toArray, List.map_cons, List.map_nil]); first | done | rfl | (simp only [List.length_drop, List.length_take]; rfl)) ?_; (with_reducible refine (codewrightref51_IsCut.calls a0_0 _ _ l0_1 a0_2 a0_3 _ _ l0_8 true _ ?side1 ?side2 ?side3 ?side4 A30.out).mono ?_); (case side1 => repeat (first | exact (Kd.C_below HR0_1.out HB.out) | (with_reducible refine Kd.C_alloc ?_ _) | (with_reducible refine Kd.C_drewN ?_ _) | (with_reducible refine Kd.C_drew ?_))); (case side2 => exact HC0_1.out); (case side3 => repeat (first | exact (Kd.C_below HR0_8.out HB.out) | (with_reducible refine Kd.C_alloc ?_ _) | (with_reducible refine Kd.C_drewN ?_ _) | (with_reducible refine Kd.C_drew ?_))); (case side4 => exact HC0_8.out); rintro e w46 ⟨rfl, hb⟩; refine ⟨_, rfl, ?_⟩; have n0_ := Aside0.mk (blk_below (g := gb246) (o := .cells #[.int .i64 a0_0, .slice A0_1 l0_1.length c0_1, .int .i64 a0_2, .int .i64 a0_3, .int .i64 a0_4, .slice A0_5 l0_5.length c0_5, .slice A0_6 l0_6.length c0_6, .slice A0_7 l0_7.length c0_7, .slice A0_8 l0_8.length c0_8] 41 (0, 0)) (by (with_reducible repeat (first | refine blk_drewN ?_ _ | refine blk_drew ?_ | refine blk_alloc ?_ _)); exact BK246.out) hb); have n1_ := Aside0.mk (below_step (by repeat (first | (with_reducible first | exact HB.out | apply below_alloc | apply pw_below_drewN | apply below_drew1 | refine below_set ?_ GE246.out) | exact HB.out)) hb); clear BK246; clear HB; have BK246 := n0_; have HB := n1_; clear n0_ n1_; (try clear hb); (try clear hb2); (try clear hk); (try clear hi); have hcz47_0 : w46.cell? ⟨gb246, 0, none⟩ = some (.int .i64 a0_0) := (blk_cell BK246.out 0).trans rfl; have hcz47_1 : w46.cell? ⟨gb246, 1, none⟩ = some (.slice A0_1 l0_1.length c0_1) := (blk_cell BK246.out 1).trans rfl; have hcz47_2 : w46.cell? ⟨gb246, 2, none⟩ = some (.int .i64 a0_2) := (blk_cell BK246.out 2).trans rfl; have hcz47_3 : w46.cell? ⟨gb246, 3, none⟩ = some (.int .i64 a0_3) := (blk_cell BK246.out 3).trans rfl; have hcz47_4 : w46.cell? ⟨gb246, 4, none⟩ = some (.int .i64 a0_4) := (blk_cell BK246.out 4).trans rfl; have hcz47_5 : w46.cell? ⟨gb246, 5, none⟩ = some (.slice A0_5 l0_5.length c0_5) := (blk_cell BK246.out 5).trans rfl; have hcz47_6 : w46.cell? ⟨gb246, 6, none⟩ = some (.slice A0_6 l0_6.length c0_6) := (blk_cell BK246.out 6).trans rfl; have hcz47_7 : w46.cell? ⟨gb246, 7, none⟩ = some (.slice A0_7 l0_7.length c0_7) := (blk_cell BK246.out 7).trans rfl; have hcz47_8 : w46.cell? ⟨gb246, 8, none⟩ = some (.slice A0_8 l0_8.length c0_8) := (blk_cell BK246.out 8).trans rfl; have hfz47_0 := blk_frozen BK246.out 0; have hfz47_1 := blk_frozen BK246.out 1; have hfz47_2 := blk_frozen BK246.out 2; have hfz47_3 := blk_frozen BK246.out 3; have hfz47_4 := blk_frozen BK246.out 4; have hfz47_5 := blk_frozen BK246.out 5; have hfz47_6 := blk_frozen BK246.out 6; have hfz47_7 := blk_frozen BK246.out 7; have hfz47_8 := blk_frozen BK246.out 8) | ((with_reducible refine gate_callee (f := 16) rfl ?_); refine goesL_ (some 69) rfl rfl Try.func16 (by kernel_rfl) rfl #[.agg #[.int .i64 a0_0, .slice A0_1 l0_1.length c0_1], .slice A0_8 l0_8.length c0_8] rfl (by (try simp only [List.map_toArray, List.map_cons, List.map_nil]); first | done | rfl | (simp only [List.length_drop, List.length_take]; rfl)) ?_; (with_reducible refine (flow_Cut.calls kj8 a0_0 _ _ l0_1 _ _ l0_8 t254 t255 _ ?side1 ?side2 ?side3 ?side4 A32.out).mono ?_); (case side1 => repeat (first | exact (Kd.C_below HR0_1.out HB.out) | (with_reducible refine Kd.C_alloc ?_ _) | (with_reducible refine Kd.C_drewN ?_ _) | (with_reducible refine Kd.C_drew ?_))); (case side2 => exact HC0_1.out); (case side3 => repeat (first | exact (Kd.C_below HR0_8.out HB.out) | (with_reducible refine Kd.C_alloc ?_ _) | (with_reducible refine Kd.C_drewN ?_ _) | (with_reducible refine Kd.C_drew ?_))); (case side4 => exact HC0_8.out); rintro e w48 ⟨rfl, hb⟩; refine ⟨_, rfl, ?_⟩; have n0_ := Aside0.mk (blk_below (g := gb246) (o := .cells #[.int .i64 a0_0, .slice A0_1 l0_1.length c0_1, .int .i64 a0_2, .int .i64 a0_3, .int .i64 a0_4, .slice A0_5 l0_5.length c0_5, .slice A0_6 l0_6.length c0_6, .slice A0_7 l0_7.length c0_7, .slice A0_8 l0_8.length c0_8] 41 (0, 0)) (by (with_reducible repeat (first | refine blk_drewN ?_ _ | refine blk_drew ?_ | refine blk_alloc ?_ _)); exact BK246.out) hb); have n1_ := Aside0.mk (below_step (by repeat (first | (with_reducible first | exact HB.out | apply below_alloc | apply pw_below_drewN | apply below_drew1 | refine below_set ?_ GE246.out) | exact HB.out)) hb); clear BK246; clear HB; have BK246 := n0_; have HB := n1_; clear n0_ n1_; (try clear hb); (try clear hb2); (try clear hk); (try clear hi)))
                go_ret
                exact ⟨by first | rfl | (simp [errW_none, errW_some] <;> rfl) | (simp [*, errW_none, errW_some] <;> rfl), by repeat (first | (with_reducible first | exact HB.out | apply below_alloc | apply pw_below_drewN | apply below_drew1 | refine below_set ?_ GE246.out) | exact HB.out)⟩
            · replace c31 := Bool.eq_false_iff.mpr c31
              subst c31
              have H1 : (some true) = some r := by rw [if_neg (show ¬ (false = true) by decide)] at H; exact H
              clear H
              have H := H1
              clear H1
              obtain rfl := Option.some.inj H
              have hcz49_0 : wc.cell? ⟨gb246, 0, none⟩ = some (.int .i64 a0_0) := (blk_cell BK246.out 0).trans rfl
              have hcz49_1 : wc.cell? ⟨gb246, 1, none⟩ = some (.slice A0_1 l0_1.length c0_1) := (blk_cell BK246.out 1).trans rfl
              have hcz49_2 : wc.cell? ⟨gb246, 2, none⟩ = some (.int .i64 a0_2) := (blk_cell BK246.out 2).trans rfl
              have hcz49_3 : wc.cell? ⟨gb246, 3, none⟩ = some (.int .i64 a0_3) := (blk_cell BK246.out 3).trans rfl
              have hcz49_4 : wc.cell? ⟨gb246, 4, none⟩ = some (.int .i64 a0_4) := (blk_cell BK246.out 4).trans rfl
              have hcz49_5 : wc.cell? ⟨gb246, 5, none⟩ = some (.slice A0_5 l0_5.length c0_5) := (blk_cell BK246.out 5).trans rfl
              have hcz49_6 : wc.cell? ⟨gb246, 6, none⟩ = some (.slice A0_6 l0_6.length c0_6) := (blk_cell BK246.out 6).trans rfl
              have hcz49_7 : wc.cell? ⟨gb246, 7, none⟩ = some (.slice A0_7 l0_7.length c0_7) := (blk_cell BK246.out 7).trans rfl
              have hcz49_8 : wc.cell? ⟨gb246, 8, none⟩ = some (.slice A0_8 l0_8.length c0_8) := (blk_cell BK246.out 8).trans rfl
              have hfz49_0 := blk_frozen BK246.out 0
              have hfz49_1 := blk_frozen BK246.out 1
              have hfz49_2 := blk_frozen BK246.out 2
              have hfz49_3 := blk_frozen BK246.out 3
              have hfz49_4 := blk_frozen BK246.out 4
              have hfz49_5 := blk_frozen BK246.out 5
              have hfz49_6 := blk_frozen BK246.out 6
              have hfz49_7 := blk_frozen BK246.out 7
              have hfz49_8 := blk_frozen BK246.out 8
              go_wp2_with (first | ((with_reducible refine gate_callee (f := 23) rfl ?_); refine goesL_ (some 63) rfl rfl Try.func23 (by kernel_rfl) rfl #[.agg #[.int .i64 a0_0, .slice A0_1 l0_1.length c0_1], .int .i64 a0_2, .int .i64 a0_3, .slice A0_8 l0_8.length c0_8] rfl (by (try simp only [List.map_toArray, List.map_cons, List.map_nil]); first | done | rfl | (simp only [List.length_drop, List.length_take]; rfl)) ?_; (with_reducible refine (codewrightref51_IsCut.calls a0_0 _ _ l0_1 a0_2 a0_3 _ _ l0_8 false _ ?side1 ?side2 ?side3 ?side4 A30.out).mono ?_); (case side1 => repeat (first | exact (Kd.C_below HR0_1.out HB.out) | (with_reducible refine Kd.C_alloc ?_ _) | (with_reducible refine Kd.C_drewN ?_ _) | (with_reducible refine Kd.C_drew ?_))); (case side2 => exact HC0_1.out); (case side3 => repeat (first | exact (Kd.C_below HR0_8.out HB.out) | (with_reducible refine Kd.C_alloc ?_ _) | (with_reducible refine Kd.C_drewN ?_ _) | (with_reducible refine Kd.C_drew ?_))); (case side4 => exact HC0_8.out); rintro e w50 ⟨rfl, hb⟩; refine ⟨_, rfl, ?_⟩; have n0_ := Aside0.mk (blk_below (g := gb246) (o := .cells #[.int .i64 a0_0, .slice A0_1 l0_1.length c0_1, .int .i64 a0_2, .int .i64 a0_3, .int .i64 a0_4, .slice A0_5 l0_5.length c0_5, .slice A0_6 l0_6.length c0_6, .slice A0_7 l0_7.length c0_7, .slice A0_8 l0_8.length c0_8] 41 (0, 0)) (by (with_reducible repeat (first | refine blk_drewN ?_ _ | refine blk_drew ?_ | refine blk_alloc ?_ _)); exact BK246.out) hb); have n1_ := Aside0.mk (below_step (by repeat (first | (with_reducible first | exact HB.out | apply below_alloc | apply pw_below_drewN | apply below_drew1 | refine below_set ?_ GE246.out) | exact HB.out)) hb); clear BK246; clear HB; have BK246 := n0_; have HB := n1_; clear n0_ n1_; (try clear hb); (try clear hb2); (try clear hk); (try clear hi)))
              go_ret
              exact ⟨by first | rfl | (simp [errW_none, errW_some] <;> rfl) | (simp [*, errW_none, errW_some] <;> rfl), by repeat (first | (with_reducible first | exact HB.out | apply below_alloc | apply pw_below_drewN | apply below_drew1 | refine below_set ?_ GE246.out) | exact HB.out)⟩
      · rw [if_neg c7] at H
        have c7b0 : (t249 == 0) = false := beq_eq_false_iff_ne.mpr c7
        have c7b1 : (t249 != 0) = true := bne_iff_ne.mpr c7
        obtain rfl := Option.some.inj H
        go_enter Try.func8, Try.ntmps8
        go_wp2_with (first | ((with_reducible refine gate_dst (N := 1) rfl ?_); refine box_event ?hg (N := 1) ?hd (cs := #[.int .i64 a0_0, .slice A0_1 l0_1.length c0_1, .int .i64 a0_2, .int .i64 a0_3, .int .i64 a0_4, .slice A0_5 l0_5.length c0_5, .slice A0_6 l0_6.length c0_6, .slice A0_7 l0_7.length c0_7, .slice A0_8 l0_8.length c0_8]) (t := 41) ?hr ?_; (case hd => rfl); (case hg => rfl); (case hr => first | (go_simp; done) | (go_simp; rfl)); intro gb246 hg w51 hbox hb; have n0_ := Aside0.mk (below_step (by repeat (first | (with_reducible first | exact HB.out | apply below_alloc | apply pw_below_drewN | apply below_drew1) | exact HB.out)) hb); have n1_ := Aside0.mk (hbox); have n2_ := Aside0.mk ((by rw [hg]; exact (below_size (by repeat (first | (with_reducible first | exact HB.out | apply below_alloc | apply pw_below_drewN | apply below_drew1) | exact HB.out))) : w.heap.size ≤ gb246)); have n3_ := Aside0.mk ((by rw [hg]; exact (below_size (by repeat (first | (with_reducible first | exact HB.out | apply below_alloc | apply pw_below_drewN | apply below_drew1) | exact HB.out))) : w.heap.size ≤ gb246)); clear HB; have HB := n0_; have BK246 := n1_; have GW246 := n2_; have GE246 := n3_; clear n0_ n1_ n2_ n3_; clear hb hbox hg) | ((with_reducible refine gate_callee (f := 18) rfl ?_); refine goesL_ (some 7) rfl rfl Try.func18 (by kernel_rfl) rfl #[] rfl (by (try simp only [List.map_toArray, List.map_cons, List.map_nil]); first | done | rfl | (simp only [List.length_drop, List.length_take]; rfl)) ?_; (with_reducible refine (codewrightlaw51_alive.calls k  true _ A2.out).mono ?_); rintro e w52 ⟨rfl, hb⟩; refine ⟨_, rfl, ?_⟩; have n0_ := Aside0.mk (blk_below (g := gb246) (o := .cells #[.int .i64 a0_0, .slice A0_1 l0_1.length c0_1, .int .i64 a0_2, .int .i64 a0_3, .int .i64 a0_4, .slice A0_5 l0_5.length c0_5, .slice A0_6 l0_6.length c0_6, .slice A0_7 l0_7.length c0_7, .slice A0_8 l0_8.length c0_8] 41 (0, 0)) (by (with_reducible repeat (first | refine blk_drewN ?_ _ | refine blk_drew ?_ | refine blk_alloc ?_ _)); exact BK246.out) hb); have n1_ := Aside0.mk (below_step (by repeat (first | (with_reducible first | exact HB.out | apply below_alloc | apply pw_below_drewN | apply below_drew1 | refine below_set ?_ GE246.out) | exact HB.out)) hb); clear BK246; clear HB; have BK246 := n0_; have HB := n1_; clear n0_ n1_; (try clear hb); (try clear hb2); (try clear hk); (try clear hi); have hcz53_0 : w52.cell? ⟨gb246, 0, none⟩ = some (.int .i64 a0_0) := (blk_cell BK246.out 0).trans rfl; have hcz53_1 : w52.cell? ⟨gb246, 1, none⟩ = some (.slice A0_1 l0_1.length c0_1) := (blk_cell BK246.out 1).trans rfl; have hcz53_2 : w52.cell? ⟨gb246, 2, none⟩ = some (.int .i64 a0_2) := (blk_cell BK246.out 2).trans rfl; have hcz53_3 : w52.cell? ⟨gb246, 3, none⟩ = some (.int .i64 a0_3) := (blk_cell BK246.out 3).trans rfl; have hcz53_4 : w52.cell? ⟨gb246, 4, none⟩ = some (.int .i64 a0_4) := (blk_cell BK246.out 4).trans rfl; have hcz53_5 : w52.cell? ⟨gb246, 5, none⟩ = some (.slice A0_5 l0_5.length c0_5) := (blk_cell BK246.out 5).trans rfl; have hcz53_6 : w52.cell? ⟨gb246, 6, none⟩ = some (.slice A0_6 l0_6.length c0_6) := (blk_cell BK246.out 6).trans rfl; have hcz53_7 : w52.cell? ⟨gb246, 7, none⟩ = some (.slice A0_7 l0_7.length c0_7) := (blk_cell BK246.out 7).trans rfl; have hcz53_8 : w52.cell? ⟨gb246, 8, none⟩ = some (.slice A0_8 l0_8.length c0_8) := (blk_cell BK246.out 8).trans rfl; have hfz53_0 := blk_frozen BK246.out 0; have hfz53_1 := blk_frozen BK246.out 1; have hfz53_2 := blk_frozen BK246.out 2; have hfz53_3 := blk_frozen BK246.out 3; have hfz53_4 := blk_frozen BK246.out 4; have hfz53_5 := blk_frozen BK246.out 5; have hfz53_6 := blk_frozen BK246.out 6; have hfz53_7 := blk_frozen BK246.out 7; have hfz53_8 := blk_frozen BK246.out 8) | ((with_reducible refine gate_callee (f := 24) rfl ?_); refine goesL_ (some 17) rfl rfl Try.func24 (by kernel_rfl) rfl #[.agg #[.int .i64 a0_0, .slice A0_1 l0_1.length c0_1], .int .i64 a0_2, .int .i64 a0_3, .agg #[.int .i64 a0_4, .slice A0_5 l0_5.length c0_5, .slice A0_6 l0_6.length c0_6]] rfl (by (try simp only [List.map_toArray, List.map_cons, List.map_nil]); first | done | rfl | (simp only [List.length_drop, List.length_take]; rfl)) ?_; (with_reducible refine (flow_Check.calls k a0_0 _ _ l0_1 a0_2 a0_3 a0_4 _ _ l0_5 _ _ l0_6 t248 _ ?side1 ?side2 ?side3 ?side4 ?side5 ?side6 A4.out).mono ?_); (case side1 => repeat (first | exact (Kd.C_below HR0_1.out HB.out) | (with_reducible refine Kd.C_alloc ?_ _) | (with_reducible refine Kd.C_drewN ?_ _) | (with_reducible refine Kd.C_drew ?_))); (case side2 => exact HC0_1.out); (case side3 => repeat (first | exact (Kd.C_below HR0_5.out HB.out) | (with_reducible refine Kd.C_alloc ?_ _) | (with_reducible refine Kd.C_drewN ?_ _) | (with_reducible refine Kd.C_drew ?_))); (case side4 => exact HC0_5.out); (case side5 => repeat (first | exact (Kd.C_below HR0_6.out HB.out) | (with_reducible refine Kd.C_alloc ?_ _) | (with_reducible refine Kd.C_drewN ?_ _) | (with_reducible refine Kd.C_drew ?_))); (case side6 => exact HC0_6.out); rintro e w54 ⟨rfl, hb⟩; refine ⟨_, rfl, ?_⟩; have n0_ := Aside0.mk (blk_below (g := gb246) (o := .cells #[.int .i64 a0_0, .slice A0_1 l0_1.length c0_1, .int .i64 a0_2, .int .i64 a0_3, .int .i64 a0_4, .slice A0_5 l0_5.length c0_5, .slice A0_6 l0_6.length c0_6, .slice A0_7 l0_7.length c0_7, .slice A0_8 l0_8.length c0_8] 41 (0, 0)) (by (with_reducible repeat (first | refine blk_drewN ?_ _ | refine blk_drew ?_ | refine blk_alloc ?_ _)); exact BK246.out) hb); have n1_ := Aside0.mk (below_step (by repeat (first | (with_reducible first | exact HB.out | apply below_alloc | apply pw_below_drewN | apply below_drew1 | refine below_set ?_ GE246.out) | exact HB.out)) hb); clear BK246; clear HB; have BK246 := n0_; have HB := n1_; clear n0_ n1_; (try clear hb); (try clear hb2); (try clear hk); (try clear hi); have hcz55_0 : w54.cell? ⟨gb246, 0, none⟩ = some (.int .i64 a0_0) := (blk_cell BK246.out 0).trans rfl; have hcz55_1 : w54.cell? ⟨gb246, 1, none⟩ = some (.slice A0_1 l0_1.length c0_1) := (blk_cell BK246.out 1).trans rfl; have hcz55_2 : w54.cell? ⟨gb246, 2, none⟩ = some (.int .i64 a0_2) := (blk_cell BK246.out 2).trans rfl; have hcz55_3 : w54.cell? ⟨gb246, 3, none⟩ = some (.int .i64 a0_3) := (blk_cell BK246.out 3).trans rfl; have hcz55_4 : w54.cell? ⟨gb246, 4, none⟩ = some (.int .i64 a0_4) := (blk_cell BK246.out 4).trans rfl; have hcz55_5 : w54.cell? ⟨gb246, 5, none⟩ = some (.slice A0_5 l0_5.length c0_5) := (blk_cell BK246.out 5).trans rfl; have hcz55_6 : w54.cell? ⟨gb246, 6, none⟩ = some (.slice A0_6 l0_6.length c0_6) := (blk_cell BK246.out 6).trans rfl; have hcz55_7 : w54.cell? ⟨gb246, 7, none⟩ = some (.slice A0_7 l0_7.length c0_7) := (blk_cell BK246.out 7).trans rfl; have hcz55_8 : w54.cell? ⟨gb246, 8, none⟩ = some (.slice A0_8 l0_8.length c0_8) := (blk_cell BK246.out 8).trans rfl; have hfz55_0 := blk_frozen BK246.out 0; have hfz55_1 := blk_frozen BK246.out 1; have hfz55_2 := blk_frozen BK246.out 2; have hfz55_3 := blk_frozen BK246.out 3; have hfz55_4 := blk_frozen BK246.out 4; have hfz55_5 := blk_frozen BK246.out 5; have hfz55_6 := blk_frozen BK246.out 6; have hfz55_7 := blk_frozen BK246.out 7; have hfz55_8 := blk_frozen BK246.out 8) | ((with_reducible refine gate_callee (f := 21) rfl ?_); refine goesL_ (some 25) rfl rfl Try.func21 (by kernel_rfl) rfl #[.agg #[.int .i64 a0_0, .slice A0_1 l0_1.length c0_1], .int .i64 a0_2, .int .i64 a0_3] rfl (by (try simp only [List.map_toArray, List.map_cons, List.map_nil]); first | done | rfl | (simp only [List.length_drop, List.length_take]; rfl)) ?_; (with_reducible refine (codewrightref51_Ends.calls k a0_0 _ _ l0_1 a0_2 a0_3 t249 _ ?side1 ?side2 A6.out).mono ?_); (case side1 => repeat (first | exact (Kd.C_below HR0_1.out HB.out) | (with_reducible refine Kd.C_alloc ?_ _) | (with_reducible refine Kd.C_drewN ?_ _) | (with_reducible refine Kd.C_drew ?_))); (case side2 => exact HC0_1.out); rintro e w56 ⟨rfl, hb⟩; refine ⟨_, rfl, ?_⟩; have n0_ := Aside0.mk (blk_below (g := gb246) (o := .cells #[.int .i64 a0_0, .slice A0_1 l0_1.length c0_1, .int .i64 a0_2, .int .i64 a0_3, .int .i64 a0_4, .slice A0_5 l0_5.length c0_5, .slice A0_6 l0_6.length c0_6, .slice A0_7 l0_7.length c0_7, .slice A0_8 l0_8.length c0_8] 41 (0, 0)) (by (with_reducible repeat (first | refine blk_drewN ?_ _ | refine blk_drew ?_ | refine blk_alloc ?_ _)); exact BK246.out) hb); have n1_ := Aside0.mk (below_step (by repeat (first | (with_reducible first | exact HB.out | apply below_alloc | apply pw_below_drewN | apply below_drew1 | refine below_set ?_ GE246.out) | exact HB.out)) hb); clear BK246; clear HB; have BK246 := n0_; have HB := n1_; clear n0_ n1_; (try clear hb); (try clear hb2); (try clear hk); (try clear hi)))
        go_ret
        exact ⟨by first | rfl | (simp [errW_none, errW_some] <;> rfl) | (simp [*, errW_none, errW_some] <;> rfl), by repeat (first | (with_reducible first | exact HB.out | apply below_alloc | apply pw_below_drewN | apply below_drew1 | refine below_set ?_ GE246.out) | exact HB.out)⟩
    · rw [if_neg c5] at H
      have c5b0 : (t248 == 0) = false := beq_eq_false_iff_ne.mpr c5
      have c5b1 : (t248 != 0) = true := bne_iff_ne.mpr c5
      obtain rfl := Option.some.inj H
      go_enter Try.func8, Try.ntmps8
      go_wp2_with (first | ((with_reducible refine gate_dst (N := 1) rfl ?_); refine box_event ?hg (N := 1) ?hd (cs := #[.int .i64 a0_0, .slice A0_1 l0_1.length c0_1, .int .i64 a0_2, .int .i64 a0_3, .int .i64 a0_4, .slice A0_5 l0_5.length c0_5, .slice A0_6 l0_6.length c0_6, .slice A0_7 l0_7.length c0_7, .slice A0_8 l0_8.length c0_8]) (t := 41) ?hr ?_; (case hd => rfl); (case hg => rfl); (case hr => first | (go_simp; done) | (go_simp; rfl)); intro gb246 hg w57 hbox hb; have n0_ := Aside0.mk (below_step (by repeat (first | (with_reducible first | exact HB.out | apply below_alloc | apply pw_below_drewN | apply below_drew1) | exact HB.out)) hb); have n1_ := Aside0.mk (hbox); have n2_ := Aside0.mk ((by rw [hg]; exact (below_size (by repeat (first | (with_reducible first | exact HB.out | apply below_alloc | apply pw_below_drewN | apply below_drew1) | exact HB.out))) : w.heap.size ≤ gb246)); have n3_ := Aside0.mk ((by rw [hg]; exact (below_size (by repeat (first | (with_reducible first | exact HB.out | apply below_alloc | apply pw_below_drewN | apply below_drew1) | exact HB.out))) : w.heap.size ≤ gb246)); clear HB; have HB := n0_; have BK246 := n1_; have GW246 := n2_; have GE246 := n3_; clear n0_ n1_ n2_ n3_; clear hb hbox hg) | ((with_reducible refine gate_callee (f := 18) rfl ?_); refine goesL_ (some 7) rfl rfl Try.func18 (by kernel_rfl) rfl #[] rfl (by (try simp only [List.map_toArray, List.map_cons, List.map_nil]); first | done | rfl | (simp only [List.length_drop, List.length_take]; rfl)) ?_; (with_reducible refine (codewrightlaw51_alive.calls k  true _ A2.out).mono ?_); rintro e w58 ⟨rfl, hb⟩; refine ⟨_, rfl, ?_⟩; have n0_ := Aside0.mk (blk_below (g := gb246) (o := .cells #[.int .i64 a0_0, .slice A0_1 l0_1.length c0_1, .int .i64 a0_2, .int .i64 a0_3, .int .i64 a0_4, .slice A0_5 l0_5.length c0_5, .slice A0_6 l0_6.length c0_6, .slice A0_7 l0_7.length c0_7, .slice A0_8 l0_8.length c0_8] 41 (0, 0)) (by (with_reducible repeat (first | refine blk_drewN ?_ _ | refine blk_drew ?_ | refine blk_alloc ?_ _)); exact BK246.out) hb); have n1_ := Aside0.mk (below_step (by repeat (first | (with_reducible first | exact HB.out | apply below_alloc | apply pw_below_drewN | apply below_drew1 | refine below_set ?_ GE246.out) | exact HB.out)) hb); clear BK246; clear HB; have BK246 := n0_; have HB := n1_; clear n0_ n1_; (try clear hb); (try clear hb2); (try clear hk); (try clear hi); have hcz59_0 : w58.cell? ⟨gb246, 0, none⟩ = some (.int .i64 a0_0) := (blk_cell BK246.out 0).trans rfl; have hcz59_1 : w58.cell? ⟨gb246, 1, none⟩ = some (.slice A0_1 l0_1.length c0_1) := (blk_cell BK246.out 1).trans rfl; have hcz59_2 : w58.cell? ⟨gb246, 2, none⟩ = some (.int .i64 a0_2) := (blk_cell BK246.out 2).trans rfl; have hcz59_3 : w58.cell? ⟨gb246, 3, none⟩ = some (.int .i64 a0_3) := (blk_cell BK246.out 3).trans rfl; have hcz59_4 : w58.cell? ⟨gb246, 4, none⟩ = some (.int .i64 a0_4) := (blk_cell BK246.out 4).trans rfl; have hcz59_5 : w58.cell? ⟨gb246, 5, none⟩ = some (.slice A0_5 l0_5.length c0_5) := (blk_cell BK246.out 5).trans rfl; have hcz59_6 : w58.cell? ⟨gb246, 6, none⟩ = some (.slice A0_6 l0_6.length c0_6) := (blk_cell BK246.out 6).trans rfl; have hcz59_7 : w58.cell? ⟨gb246, 7, none⟩ = some (.slice A0_7 l0_7.length c0_7) := (blk_cell BK246.out 7).trans rfl; have hcz59_8 : w58.cell? ⟨gb246, 8, none⟩ = some (.slice A0_8 l0_8.length c0_8) := (blk_cell BK246.out 8).trans rfl; have hfz59_0 := blk_frozen BK246.out 0; have hfz59_1 := blk_frozen BK246.out 1; have hfz59_2 := blk_frozen BK246.out 2; have hfz59_3 := blk_frozen BK246.out 3; have hfz59_4 := blk_frozen BK246.out 4; have hfz59_5 := blk_frozen BK246.out 5; have hfz59_6 := blk_frozen BK246.out 6; have hfz59_7 := blk_frozen BK246.out 7; have hfz59_8 := blk_frozen BK246.out 8) | ((with_reducible refine gate_callee (f := 24) rfl ?_); refine goesL_ (some 17) rfl rfl Try.func24 (by kernel_rfl) rfl #[.agg #[.int .i64 a0_0, .slice A0_1 l0_1.length c0_1], .int .i64 a0_2, .int .i64 a0_3, .agg #[.int .i64 a0_4, .slice A0_5 l0_5.length c0_5, .slice A0_6 l0_6.length c0_6]] rfl (by (try simp only [List.map_toArray, List.map_cons, List.map_nil]); first | done | rfl | (simp only [List.length_drop, List.length_take]; rfl)) ?_; (with_reducible refine (flow_Check.calls k a0_0 _ _ l0_1 a0_2 a0_3 a0_4 _ _ l0_5 _ _ l0_6 t248 _ ?side1 ?side2 ?side3 ?side4 ?side5 ?side6 A4.out).mono ?_); (case side1 => repeat (first | exact (Kd.C_below HR0_1.out HB.out) | (with_reducible refine Kd.C_alloc ?_ _) | (with_reducible refine Kd.C_drewN ?_ _) | (with_reducible refine Kd.C_drew ?_))); (case side2 => exact HC0_1.out); (case side3 => repeat (first | exact (Kd.C_below HR0_5.out HB.out) | (with_reducible refine Kd.C_alloc ?_ _) | (with_reducible refine Kd.C_drewN ?_ _) | (with_reducible refine Kd.C_drew ?_))); (case side4 => exact HC0_5.out); (case side5 => repeat (first | exact (Kd.C_below HR0_6.out HB.out) | (with_reducible refine Kd.C_alloc ?_ _) | (with_reducible refine Kd.C_drewN ?_ _) | (with_reducible refine Kd.C_drew ?_))); (case side6 => exact HC0_6.out); rintro e w60 ⟨rfl, hb⟩; refine ⟨_, rfl, ?_⟩; have n0_ := Aside0.mk (blk_below (g := gb246) (o := .cells #[.int .i64 a0_0, .slice A0_1 l0_1.length c0_1, .int .i64 a0_2, .int .i64 a0_3, .int .i64 a0_4, .slice A0_5 l0_5.length c0_5, .slice A0_6 l0_6.length c0_6, .slice A0_7 l0_7.length c0_7, .slice A0_8 l0_8.length c0_8] 41 (0, 0)) (by (with_reducible repeat (first | refine blk_drewN ?_ _ | refine blk_drew ?_ | refine blk_alloc ?_ _)); exact BK246.out) hb); have n1_ := Aside0.mk (below_step (by repeat (first | (with_reducible first | exact HB.out | apply below_alloc | apply pw_below_drewN | apply below_drew1 | refine below_set ?_ GE246.out) | exact HB.out)) hb); clear BK246; clear HB; have BK246 := n0_; have HB := n1_; clear n0_ n1_; (try clear hb); (try clear hb2); (try clear hk); (try clear hi)))
      go_ret
      exact ⟨by first | rfl | (simp [errW_none, errW_some] <;> rfl) | (simp [*, errW_none, errW_some] <;> rfl), by repeat (first | (with_reducible first | exact HB.out | apply below_alloc | apply pw_below_drewN | apply below_drew1 | refine below_set ?_ GE246.out) | exact HB.out)⟩
  · replace c3 := Bool.eq_false_iff.mpr c3
    subst c3
    have H1 : (some false) = some r := by rw [if_neg (show ¬ (false = true) by decide)] at H; exact H
    clear H
    have H := H1
    clear H1
    obtain rfl := Option.some.inj H
    go_enter Try.func8, Try.ntmps8
    go_wp2_with (first | ((with_reducible refine gate_dst (N := 1) rfl ?_); refine box_event ?hg (N := 1) ?hd (cs := #[.int .i64 a0_0, .slice A0_1 l0_1.length c0_1, .int .i64 a0_2, .int .i64 a0_3, .int .i64 a0_4, .slice A0_5 l0_5.length c0_5, .slice A0_6 l0_6.length c0_6, .slice A0_7 l0_7.length c0_7, .slice A0_8 l0_8.length c0_8]) (t := 41) ?hr ?_; (case hd => rfl); (case hg => rfl); (case hr => first | (go_simp; done) | (go_simp; rfl)); intro gb246 hg w61 hbox hb; have n0_ := Aside0.mk (below_step (by repeat (first | (with_reducible first | exact HB.out | apply below_alloc | apply pw_below_drewN | apply below_drew1) | exact HB.out)) hb); have n1_ := Aside0.mk (hbox); have n2_ := Aside0.mk ((by rw [hg]; exact (below_size (by repeat (first | (with_reducible first | exact HB.out | apply below_alloc | apply pw_below_drewN | apply below_drew1) | exact HB.out))) : w.heap.size ≤ gb246)); have n3_ := Aside0.mk ((by rw [hg]; exact (below_size (by repeat (first | (with_reducible first | exact HB.out | apply below_alloc | apply pw_below_drewN | apply below_drew1) | exact HB.out))) : w.heap.size ≤ gb246)); clear HB; have HB := n0_; have BK246 := n1_; have GW246 := n2_; have GE246 := n3_; clear n0_ n1_ n2_ n3_; clear hb hbox hg) | ((with_reducible refine gate_callee (f := 18) rfl ?_); refine goesL_ (some 7) rfl rfl Try.func18 (by kernel_rfl) rfl #[] rfl (by (try simp only [List.map_toArray, List.map_cons, List.map_nil]); first | done | rfl | (simp only [List.length_drop, List.length_take]; rfl)) ?_; (with_reducible refine (codewrightlaw51_alive.calls k  false _ A2.out).mono ?_); rintro e w62 ⟨rfl, hb⟩; refine ⟨_, rfl, ?_⟩; have n0_ := Aside0.mk (blk_below (g := gb246) (o := .cells #[.int .i64 a0_0, .slice A0_1 l0_1.length c0_1, .int .i64 a0_2, .int .i64 a0_3, .int .i64 a0_4, .slice A0_5 l0_5.length c0_5, .slice A0_6 l0_6.length c0_6, .slice A0_7 l0_7.length c0_7, .slice A0_8 l0_8.length c0_8] 41 (0, 0)) (by (with_reducible repeat (first | refine blk_drewN ?_ _ | refine blk_drew ?_ | refine blk_alloc ?_ _)); exact BK246.out) hb); have n1_ := Aside0.mk (below_step (by repeat (first | (with_reducible first | exact HB.out | apply below_alloc | apply pw_below_drewN | apply below_drew1 | refine below_set ?_ GE246.out) | exact HB.out)) hb); clear BK246; clear HB; have BK246 := n0_; have HB := n1_; clear n0_ n1_; (try clear hb); (try clear hb2); (try clear hk); (try clear hi)))
    go_ret
    exact ⟨by first | rfl | (simp [errW_none, errW_some] <;> rfl) | (simp [*, errW_none, errW_some] <;> rfl), by repeat (first | (with_reducible first | exact HB.out | apply below_alloc | apply pw_below_drewN | apply below_drew1 | refine below_set ?_ GE246.out) | exact HB.out)⟩

end Go.Proofs.Ytidomjhihfoabaa.PF
