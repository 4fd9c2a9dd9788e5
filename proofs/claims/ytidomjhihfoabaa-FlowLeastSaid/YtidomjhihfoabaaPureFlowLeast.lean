/- The plain part of the law FlowLeast, over numbers and lists alone: what its statement needs. -/
import Derived.Test.YtidomjhihfoabaaHLeast
import Derived.Test.YtidomjhihfoabaaHLeast1
import Derived.Test.YtidomjhihfoabaaHReach
import Derived.Test.YtidomjhihfoabaaHRefMax
import Derived.Test.YtidomjhihfoabaaHSG
import Derived.Test.YtidomjhihfoabaaHSrch
import Derived.Test.YtidomjhihfoabaaPFx0
import Derived.Test.YtidomjhihfoabaaPFx12
import Derived.Test.YtidomjhihfoabaaPFx14
import Derived.Test.YtidomjhihfoabaaPFx15
import Derived.Test.YtidomjhihfoabaaPFx16
import Derived.Test.YtidomjhihfoabaaPFx18
import Derived.Test.YtidomjhihfoabaaPFx21
import Derived.Test.YtidomjhihfoabaaPFx26
import Derived.Test.YtidomjhihfoabaaPFx29
import Derived.Test.YtidomjhihfoabaaPFx33
import Derived.Test.YtidomjhihfoabaaPFx34
import Derived.Test.YtidomjhihfoabaaPFx38
import Derived.Test.YtidomjhihfoabaaPFx42
import Derived.Test.YtidomjhihfoabaaStFlowLeast
namespace Go.Proofs.Ytidomjhihfoabaa.PF
open Go.RowKit Go.Proofs.YtidomjhihfoabaaW.PrintWords Go.Proofs.YtidomjhihfoabaaW.PrintLast
set_option linter.unusedVariables false
set_option linter.unusedSimpArgs false

theorem Ev.same {α : Type} {g : Nat → Option α} {r : α} (h : ∀ k, g k = some r) : Ev g r := ⟨0, fun k _ => h k⟩
theorem wr1 {i : Nat} (h : i < 4611686018427387904) : wrap64 ((i : Int) + 1) = ((i + 1 : Nat) : Int) := by
  unfold wrap64; omega
theorem wr0 {x : Int} (h0 : -9223372036854775808 ≤ x) (h1 : x ≤ 9223372036854775807) : wrap64 x = x := by
  unfold wrap64; omega
theorem rd_nat (l : List Int) (i : Nat) : rd l (i : Int) = l.getD i 0 := by simp [rd]
theorem rdOf_nat {α : Type} (d : α) (l : List α) (i : Nat) : rdOf d l (i : Int) = l.getD i d := by simp [rdOf]
theorem rd36_nat (l : List S36) (i : Nat) : rd_T36 l (i : Int) = l.getD i z36 := by simp [rd_T36]
theorem getD_drop {α : Type} (d : α) (l : List α) (i : Nat) (h : i < l.length) : l.drop i = l.getD i d :: l.drop (i + 1) := by
  rw [List.drop_eq_getElem_cons h]; simp [List.getD, h]
/-- an arc lies in a network of v vertices -/
def okArc (v : Int) (a : S36) : Prop := 0 ≤ a.f0 ∧ a.f0 < v ∧ 0 ≤ a.f1 ∧ a.f1 < v ∧ 0 ≤ a.f2 ∧ a.f2 ≤ 1099511627776
instance (v : Int) (a : S36) : Decidable (okArc v a) := by unfold okArc; infer_instance
def okArcs (v : Int) (l : List S36) : Prop := ∀ a ∈ l, okArc v a
instance (v : Int) (l : List S36) : Decidable (okArcs v l) := by unfold okArcs; infer_instance
/-- the first error of a network -/
def chk (v : Int) (l : List S36) : Int := if v < 1 ∨ v > 256 then 6 else if l.length > 1024 then 8 else if okArcs v l then 0 else 6
theorem okArcs_cons {v : Int} {a : S36} {l : List S36} : okArcs v (a :: l) ↔ okArc v a ∧ okArcs v l := by simp [okArcs]
theorem chk_l0 (v : Int) (l : List S36) (hl : l.length ≤ 1024) (d : Nat) : ∀ i : Nat, i + d = l.length →
    Ev (fun k => flow_CheckNetwork.l0 k l (l.length : Int) (i : Int) v l) (if okArcs v (l.drop i) then 0 else 6) := by
  induction d with
  | zero =>
    intro i hi
    refine Ev.step (fun _ => flow_CheckNetwork.l0.eq_2 ..) ?_
    rw [List.drop_of_length_le (by omega)]
    simp only [if_neg (show ¬ ((i : Int) < (l.length : Int)) by omega)]
    exact Ev.same (fun k => by simp [okArcs])
  | succ d ih =>
    intro i hi
    refine Ev.step (fun _ => flow_CheckNetwork.l0.eq_2 ..) ?_
    rw [getD_drop z36 l i (by omega), rd36_nat]
    simp only [if_pos (show ((i : Int) < (l.length : Int)) by omega), if_pos (show (0 : Int) ≤ (i : Int) by omega), wr1 (show i < 4611686018427387904 by omega)]
    have ih' := ih (i + 1) (by omega)
    generalize hx : l.getD i z36 = x
    simp only [okArcs_cons]
    by_cases h1 : x.f0 < 0
    · simp only [if_pos h1]; exact Ev.same (fun k => by rw [if_neg]; unfold okArc; omega)
    by_cases h2 : x.f0 ≥ v
    · simp only [if_neg h1, if_pos h2]; exact Ev.same (fun k => by rw [if_neg]; unfold okArc; omega)
    by_cases h3 : x.f1 < 0
    · simp only [if_neg h1, if_neg h2, if_pos h3]; exact Ev.same (fun k => by rw [if_neg]; unfold okArc; omega)
    by_cases h4 : x.f1 ≥ v
    · simp only [if_neg h1, if_neg h2, if_neg h3, if_pos h4]; exact Ev.same (fun k => by rw [if_neg]; unfold okArc; omega)
    by_cases h5 : x.f2 < 0
    · simp only [if_neg h1, if_neg h2, if_neg h3, if_neg h4, if_pos h5]; exact Ev.same (fun k => by rw [if_neg]; unfold okArc; omega)
    by_cases h6 : x.f2 > 1099511627776
    · simp only [if_neg h1, if_neg h2, if_neg h3, if_neg h4, if_neg h5, if_pos h6]; exact Ev.same (fun k => by rw [if_neg]; unfold okArc; omega)
    simp only [if_neg h1, if_neg h2, if_neg h3, if_neg h4, if_neg h5, if_neg h6]
    have hk : okArc v x := by unfold okArc; omega
    simp only [hk, true_and]
    exact ih'
theorem chk_ref_l0 (v : Int) (l : List S36) (hl : l.length ≤ 1024) (d : Nat) : ∀ i : Nat, i + d = l.length →
    Ev (fun k => codewrightref51_Check.l0 k (i : Int) v l) (if okArcs v (l.drop i) then 0 else 6) := by
  induction d with
  | zero =>
    intro i hi
    refine Ev.step (fun _ => codewrightref51_Check.l0.eq_2 ..) ?_
    rw [List.drop_of_length_le (by omega)]
    simp only [if_neg (show ¬ ((i : Int) < (l.length : Int)) by omega)]
    exact Ev.same (fun k => by simp [okArcs])
  | succ d ih =>
    intro i hi
    refine Ev.step (fun _ => codewrightref51_Check.l0.eq_2 ..) ?_
    rw [getD_drop z36 l i (by omega), rd36_nat]
    simp only [if_pos (show ((i : Int) < (l.length : Int)) by omega), if_pos (show (0 : Int) ≤ (i : Int) by omega), wr1 (show i < 4611686018427387904 by omega)]
    have ih' := ih (i + 1) (by omega)
    generalize hx : l.getD i z36 = x
    simp only [okArcs_cons]
    by_cases h1 : x.f0 < 0
    · simp only [if_pos h1]; exact Ev.same (fun k => by rw [if_neg]; unfold okArc; omega)
    by_cases h2 : x.f0 ≥ v
    · simp only [if_neg h1, if_pos h2]; exact Ev.same (fun k => by rw [if_neg]; unfold okArc; omega)
    by_cases h3 : x.f1 < 0
    · simp only [if_neg h1, if_neg h2, if_pos h3]; exact Ev.same (fun k => by rw [if_neg]; unfold okArc; omega)
    by_cases h4 : x.f1 ≥ v
    · simp only [if_neg h1, if_neg h2, if_neg h3, if_pos h4]; exact Ev.same (fun k => by rw [if_neg]; unfold okArc; omega)
    by_cases h5 : x.f2 < 0
    · simp only [if_neg h1, if_neg h2, if_neg h3, if_neg h4, if_pos h5]; exact Ev.same (fun k => by rw [if_neg]; unfold okArc; omega)
    by_cases h6 : x.f2 > 1099511627776
    · simp only [if_neg h1, if_neg h2, if_neg h3, if_neg h4, if_neg h5, if_pos h6]; exact Ev.same (fun k => by rw [if_neg]; unfold okArc; omega)
    simp only [if_neg h1, if_neg h2, if_neg h3, if_neg h4, if_neg h5, if_neg h6]
    have hk : okArc v x := by unfold okArc; omega
    simp only [hk, true_and]
    exact ih'
theorem check_ev (v : Int) (l : List S36) : Ev (fun k => flow_CheckNetwork.f k v l) (chk v l) := by
  unfold chk flow_CheckNetwork.f
  have key : ∀ b : Bool, (b = true ↔ (v < 1 ∨ v > 256)) → Ev (fun k => flow_CheckNetwork.j0 k b v l) (if v < 1 ∨ v > 256 then 6 else if l.length > 1024 then 8 else if okArcs v l then 0 else 6) := by
    intro b hb
    refine Ev.step (fun _ => flow_CheckNetwork.j0.eq_2 ..) ?_
    by_cases h : v < 1 ∨ v > 256
    · simp only [if_pos h, if_pos (hb.2 h)]; exact Ev.same (fun _ => rfl)
    · simp only [if_neg h, if_neg (fun e => h (hb.1 e))]
      by_cases h2 : l.length > 1024
      · simp only [if_pos h2, if_pos (show (l.length : Int) > 1024 by omega)]; exact Ev.same (fun _ => rfl)
      · simp only [if_neg h2, if_neg (show ¬ (l.length : Int) > 1024 by omega)]
        have := chk_l0 v l (by omega) l.length 0 (by omega)
        simpa using this
  by_cases h : v < 1
  · simp only [if_pos h]; exact key true (by simp [h]) |> fun x => by simpa [h] using x
  · simp only [if_neg h]; exact key _ (by simp; omega)
theorem check_ref_ev (v : Int) (l : List S36) : Ev (fun k => codewrightref51_Check.f k v l) (chk v l) := by
  unfold chk codewrightref51_Check.f
  have key : ∀ b : Bool, (b = true ↔ (v < 1 ∨ v > 256)) → Ev (fun k => codewrightref51_Check.j0 k b v l) (if v < 1 ∨ v > 256 then 6 else if l.length > 1024 then 8 else if okArcs v l then 0 else 6) := by
    intro b hb
    refine Ev.step (fun _ => codewrightref51_Check.j0.eq_2 ..) ?_
    by_cases h : v < 1 ∨ v > 256
    · simp only [if_pos h, if_pos (hb.2 h)]; exact Ev.same (fun _ => rfl)
    · simp only [if_neg h, if_neg (fun e => h (hb.1 e))]
      by_cases h2 : l.length > 1024
      · simp only [if_pos h2, if_pos (show (l.length : Int) > 1024 by omega)]; exact Ev.same (fun _ => rfl)
      · simp only [if_neg h2, if_neg (show ¬ (l.length : Int) > 1024 by omega)]
        have := chk_ref_l0 v l (by omega) l.length 0 (by omega)
        simpa using this
  by_cases h : v < 1
  · simp only [if_pos h]; exact key true (by simp [h]) |> fun x => by simpa [h] using x
  · simp only [if_neg h]; exact key _ (by simp; omega)
/-- what a network is told by its first error -/
theorem chk_ok {v : Int} {l : List S36} (h : chk v l = 0) : 1 ≤ v ∧ v ≤ 256 ∧ l.length ≤ 1024 ∧ okArcs v l := by
  unfold chk at h
  split at h
  · simp at h
  · split at h
    · simp at h
    · split at h
      · rename_i h1 h2 h3; exact ⟨by omega, by omega, by omega, h3⟩
      · simp at h

/-! ### cuts -/
/-- what an arc adds to the capacity of a cut -/
def cutOf (side : List Bool) (a : S36) : Int := if side.getD a.f0.toNat false = true ∧ side.getD a.f1.toNat false = false then a.f2 else 0
def cut (side : List Bool) (l : List S36) : Int := (l.map (cutOf side)).sum
theorem cut_cons (side : List Bool) (a : S36) (l : List S36) : cut side (a :: l) = cutOf side a + cut side l := by simp [cut]
theorem cutOf_le {v : Int} {side : List Bool} {a : S36} (h : okArc v a) : 0 ≤ cutOf side a ∧ cutOf side a ≤ 1099511627776 := by
  unfold okArc at h; unfold cutOf; split <;> omega
theorem cap_l0 (v : Int) (l : List S36) (side : List Bool) (hv : (side.length : Int) = v) (hl : l.length ≤ 1024) (hok : okArcs v l) (d : Nat) : ∀ (i : Nat) (s : Int), i + d = l.length →
    0 ≤ s → s ≤ 1099511627776 * i →
    Ev (fun k => flow_capacity.l0 k side s l (l.length : Int) (i : Int)) (s + cut side (l.drop i)) := by
  induction d with
  | zero =>
    intro i s hi hs0 hs1
    refine Ev.step (fun _ => flow_capacity.l0.eq_2 ..) ?_
    rw [List.drop_of_length_le (by omega)]
    simp only [if_neg (show ¬ ((i : Int) < (l.length : Int)) by omega)]
    exact Ev.same (fun k => by simp [cut])
  | succ d ih =>
    intro i s hi hs0 hs1
    refine Ev.step (fun _ => flow_capacity.l0.eq_2 ..) ?_
    rw [getD_drop z36 l i (by omega), rd36_nat, cut_cons]
    have hx : okArc v (l.getD i z36) := hok _ (by simp [List.getD, show i < l.length by omega])
    generalize l.getD i z36 = x at hx
    have hc := cutOf_le (side := side) hx
    obtain ⟨h1, h2, h3, h4, h5, h6⟩ := hx
    simp only [if_pos (show ((i : Int) < (l.length : Int)) by omega), if_pos (show (0 : Int) ≤ (i : Int) by omega), wr1 (show i < 4611686018427387904 by omega), if_pos h1, if_pos h3, if_pos (show x.f0 < (side.length : Int) by omega), if_pos (show x.f1 < (side.length : Int) by omega)]
    unfold rdOf
    unfold cutOf at hc ⊢
    by_cases c1 : side.getD x.f0.toNat false = true
    · by_cases c2 : side.getD x.f1.toNat false = true
      · simp only [if_pos c1, if_pos c2]
        have := ih (i + 1) s (by omega) hs0 (by omega)
        rw [if_neg (fun h => by rw [c2] at h; exact absurd h.2 (by decide))]
        simpa using this
      · simp only [if_pos c1, if_neg c2]
        have := ih (i + 1) (s + x.f2) (by omega) (by omega) (by omega)
        rw [if_pos ⟨c1, by simpa using c2⟩]
        rw [wr0 (by omega) (by omega)]
        simpa [Int.add_assoc] using this
    · simp only [if_neg c1]
      have := ih (i + 1) s (by omega) hs0 (by omega)
      rw [if_neg (fun h => c1 h.1)]
      simpa using this
theorem cap_ev {v : Int} {l : List S36} {side : List Bool} (h : chk v l = 0) (hv : (side.length : Int) = v) : Ev (fun k => flow_capacity.f k v l side) (cut side l) := by
  obtain ⟨h1, h2, h3, h4⟩ := chk_ok h
  have := cap_l0 v l side hv h3 h4 l.length 0 0 (by omega) (by omega) (by omega)
  simpa [flow_capacity.f] using this
/-- what Cut answers -/
def cutAns (v : Int) (l : List S36) (side : List Bool) : Int × Int := if chk v l = 0 then (if (side.length : Int) = v then (cut side l, 0) else (0, 3)) else (0, chk v l)
theorem Cut_ev (v : Int) (l : List S36) (side : List Bool) : Ev (fun k => flow_Cut.f k v l side) (cutAns v l side) := by
  unfold cutAns flow_Cut.f
  refine Ev.bind (check_ev v l) ?_
  by_cases h : chk v l = 0
  · simp only [if_pos h]
    by_cases h2 : (side.length : Int) = v
    · simp only [if_pos h2]
      exact Ev.bind (cap_ev h h2) (Ev.same (fun _ => rfl))
    · simp only [if_neg h2]; exact Ev.same (fun _ => rfl)
  · simp only [if_neg h]; exact Ev.same (fun _ => rfl)
theorem alive_ev : Ev (fun k => codewrightlaw51_alive.f k) true := by
  unfold codewrightlaw51_alive.f
  refine Ev.bind (Cut_ev _ _ _) ?_
  exact Ev.same (fun _ => by decide)
/-- what an arc with x on it adds to what flows out of v -/
def flowAt (v : Int) (a : S36) (x : Int) : Int := (if a.f0 = v then x else 0) - (if a.f1 = v then x else 0)
/-- what flows out of v less what flows into it, over the first arcs -/
def netTo (v : Int) (l : List S36) (al : List Int) : Nat → Int
  | 0 => 0
  | i + 1 => netTo v l al i + flowAt v (l.getD i z36) (al.getD i 0)
def netAt (v : Int) (l : List S36) (al : List Int) : Int := netTo v l al l.length
theorem netTo_bound (v : Int) (l : List S36) (al : List Int) (i : Nat) (h : ∀ j, j < i → 0 ≤ al.getD j 0 ∧ al.getD j 0 ≤ 1099511627776) : -(1099511627776 * (i : Int)) ≤ netTo v l al i ∧ netTo v l al i ≤ 1099511627776 * (i : Int) := by
  induction i with
  | zero => simp [netTo]
  | succ i ih =>
    have h1 := ih (fun j hj => h j (by omega))
    have h2 := h i (by omega)
    simp only [netTo, flowAt]
    split <;> split <;> omega
/-- each arc has from 0 to its capacity -/
def okAl (l : List S36) (al : List Int) : Prop := ∀ j, j < l.length → 0 ≤ al.getD j 0 ∧ al.getD j 0 ≤ (l.getD j z36).f2
theorem okAl_cap {v : Int} {l : List S36} {al : List Int} (h : okAl l al) (hok : okArcs v l) : ∀ j, j < l.length → 0 ≤ al.getD j 0 ∧ al.getD j 0 ≤ 1099511627776 := by
  intro j hj
  have h1 := h j hj
  have h2 : okArc v (l.getD j z36) := hok _ (by simp [List.getD, hj])
  unfold okArc at h2
  omega
/-- the reference's flows -/
def isFlow (n : Nat) (l : List S36) (s t : Int) (al : List Int) : Prop :=
  al.length = l.length ∧ okAl l al ∧ ∀ u : Nat, u < n → (u : Int) ≠ s → (u : Int) ≠ t → netAt (u : Int) l al = 0
/-- the reference's cuts -/
def isCut (n : Nat) (s t : Int) (side : List Bool) : Prop := side.length = n ∧ side.getD s.toNat false = true ∧ side.getD t.toNat false = false
/-- the error of a network with a source and a sink -/
def endsOf (v : Int) (l : List S36) (s t : Int) : Int := if chk v l = 0 then (if s < 0 ∨ s ≥ v ∨ t < 0 ∨ t ≥ v then 6 else if s = t then 10 else 0) else chk v l
theorem endsOf_ok {v : Int} {l : List S36} {s t : Int} (h : endsOf v l s t = 0) : chk v l = 0 ∧ 0 ≤ s ∧ s < v ∧ 0 ≤ t ∧ t < v ∧ s ≠ t := by
  unfold endsOf at h
  split at h
  · rename_i h1
    split at h
    · simp at h
    · split at h
      · simp at h
      · refine ⟨h1, ?_⟩; omega
  · exact absurd h (by assumption)
theorem ends_j0 (s t : Int) (b : Bool) : Ev (fun k => flow_ends.j0 k s t b) (if b = true then 6 else if s = t then 10 else 0) := by
  refine Ev.step (fun _ => flow_ends.j0.eq_2 ..) ?_
  refine Ev.same (fun k => ?_)
  split
  · rfl
  · split <;> rfl
theorem ends_ev (v : Int) (l : List S36) (s t : Int) : Ev (fun k => flow_ends.f k v l s t) (endsOf v l s t) := by
  unfold endsOf flow_ends.f
  refine Ev.bind (check_ev v l) ?_
  by_cases c : chk v l = 0
  · simp only [if_pos c]
    have j := ends_j0 s t
    by_cases c1 : s < 0
    · simp only [if_pos c1, if_pos (show s < 0 ∨ s ≥ v ∨ t < 0 ∨ t ≥ v by omega)]; simpa using j true
    by_cases c2 : s ≥ v
    · simp only [if_neg c1, if_pos c2, if_pos (show s < 0 ∨ s ≥ v ∨ t < 0 ∨ t ≥ v by omega)]; simpa using j true
    by_cases c3 : t < 0
    · simp only [if_neg c1, if_neg c2, if_pos c3, if_pos (show s < 0 ∨ s ≥ v ∨ t < 0 ∨ t ≥ v by omega)]; simpa using j true
    simp only [if_neg c1, if_neg c2, if_neg c3]
    by_cases c4 : t ≥ v
    · have := j (decide (t ≥ v))
      rw [if_pos (show s < 0 ∨ s ≥ v ∨ t < 0 ∨ t ≥ v by omega)]
      simpa [c4] using this
    · have := j (decide (t ≥ v))
      rw [if_neg (show ¬ (s < 0 ∨ s ≥ v ∨ t < 0 ∨ t ≥ v) by omega)]
      simpa [c4] using this
  · simp only [if_neg c]; exact Ev.same (fun _ => rfl)
theorem ends_ref_j0 (s t : Int) (b : Bool) : Ev (fun k => codewrightref51_Ends.j0 k s t b) (if b = true then 6 else if s = t then 10 else 0) := by
  refine Ev.step (fun _ => codewrightref51_Ends.j0.eq_2 ..) ?_
  refine Ev.same (fun k => ?_)
  split
  · rfl
  · split <;> rfl
theorem ends_ref_ev (v : Int) (l : List S36) (s t : Int) : Ev (fun k => codewrightref51_Ends.f k v l s t) (endsOf v l s t) := by
  unfold endsOf codewrightref51_Ends.f
  refine Ev.bind (check_ref_ev v l) ?_
  by_cases c : chk v l = 0
  · simp only [if_pos c]
    have j := ends_ref_j0 s t
    by_cases c1 : s < 0
    · simp only [if_pos c1, if_pos (show s < 0 ∨ s ≥ v ∨ t < 0 ∨ t ≥ v by omega)]; simpa using j true
    by_cases c2 : s ≥ v
    · simp only [if_neg c1, if_pos c2, if_pos (show s < 0 ∨ s ≥ v ∨ t < 0 ∨ t ≥ v by omega)]; simpa using j true
    by_cases c3 : t < 0
    · simp only [if_neg c1, if_neg c2, if_pos c3, if_pos (show s < 0 ∨ s ≥ v ∨ t < 0 ∨ t ≥ v by omega)]; simpa using j true
    simp only [if_neg c1, if_neg c2, if_neg c3]
    by_cases c4 : t ≥ v
    · have := j (decide (t ≥ v))
      rw [if_pos (show s < 0 ∨ s ≥ v ∨ t < 0 ∨ t ≥ v by omega)]
      simpa [c4] using this
    · have := j (decide (t ≥ v))
      rw [if_neg (show ¬ (s < 0 ∨ s ≥ v ∨ t < 0 ∨ t ≥ v) by omega)]
      simpa [c4] using this
  · simp only [if_neg c]; exact Ev.same (fun _ => rfl)
theorem endsOf_nat {v : Int} {l : List S36} {s t : Int} (he : endsOf v l s t = 0) : ∃ n : Nat, v = (n : Int) := by
  obtain ⟨h, _⟩ := endsOf_ok he
  have := chk_ok h
  exact ⟨v.toNat, by omega⟩
theorem few_ev (v : Int) (l : List S36) : ∃ b, Ev (fun k => codewrightlaw51_few.f k v l) b ∧ (b = true → (v ≤ 40 ∧ l.length ≤ 120) ∨ chk v l ≠ 0) ∧ (b = false → chk v l = 0) := by
  unfold codewrightlaw51_few.f
  by_cases c1 : v ≤ 40
  · by_cases c2 : l.length ≤ 120
    · refine ⟨true, ?_, fun _ => Or.inl ⟨c1, c2⟩, fun h => by cases h⟩
      simp only [if_pos c1, if_pos (show (l.length : Int) ≤ 120 by omega)]; exact Ev.same (fun _ => rfl)
    · refine ⟨chk v l != 0, ?_, fun h => Or.inr (by simpa using h), fun h => by simpa using h⟩
      simp only [if_pos c1, if_neg (show ¬ (l.length : Int) ≤ 120 by omega)]
      exact Ev.bind (check_ref_ev v l) (Ev.same (fun _ => rfl))
  · refine ⟨chk v l != 0, ?_, fun h => Or.inr (by simpa using h), fun h => by simpa using h⟩
    simp only [if_neg c1]
    exact Ev.bind (check_ref_ev v l) (Ev.same (fun _ => rfl))
def sumS (side : Nat → Bool) (g : Nat → Int) : Nat → Int
  | 0 => 0
  | u + 1 => sumS side g u + (if side u = true then g u else 0)
theorem sumS_add (side : Nat → Bool) (g h : Nat → Int) (n : Nat) : sumS side (fun u => g u + h u) n = sumS side g n + sumS side h n := by
  induction n with
  | zero => simp [sumS]
  | succ n ih => simp only [sumS, ih]; split <;> omega
theorem sumS_sub (side : Nat → Bool) (g h : Nat → Int) (n : Nat) : sumS side (fun u => g u - h u) n = sumS side g n - sumS side h n := by
  induction n with
  | zero => simp [sumS]
  | succ n ih => simp only [sumS, ih]; split <;> omega
theorem sumS_zero (side : Nat → Bool) (n : Nat) : sumS side (fun _ => 0) n = 0 := by
  induction n with
  | zero => simp [sumS]
  | succ n ih => simp [sumS, ih]
theorem sumS_one (side : Nat → Bool) (a : Nat) (x : Int) (n : Nat) : sumS side (fun u => if (a : Int) = (u : Int) then x else 0) n = if a < n ∧ side a = true then x else 0 := by
  induction n with
  | zero => simp [sumS]
  | succ n ih =>
    simp only [sumS, ih]
    by_cases c : a = n
    · subst c
      by_cases c2 : side a = true <;> simp [c2]
    · have c1 : ¬ (a : Int) = (n : Int) := by omega
      simp only [if_neg c1]
      by_cases c2 : side a = true <;> simp [c2] <;> (try split) <;> (try split) <;> omega
/-- what an arc brings out of a set -/
def xAt (side : Nat → Bool) (a : S36) (x : Int) : Int := (if side a.f0.toNat = true then x else 0) - (if side a.f1.toNat = true then x else 0)
def xTo (side : Nat → Bool) (l : List S36) (al : List Int) : Nat → Int
  | 0 => 0
  | i + 1 => xTo side l al i + xAt side (l.getD i z36) (al.getD i 0)
theorem sumS_flowAt {side : Nat → Bool} {a : S36} {n : Nat} (h : okArc (n : Int) a) (x : Int) : sumS side (fun u => flowAt (u : Int) a x) n = xAt side a x := by
  obtain ⟨f, hf⟩ : ∃ f : Nat, a.f0 = (f : Int) := ⟨a.f0.toNat, by unfold okArc at h; omega⟩
  obtain ⟨g, hg⟩ : ∃ g : Nat, a.f1 = (g : Int) := ⟨a.f1.toNat, by unfold okArc at h; omega⟩
  have h1 : f < n := by unfold okArc at h; omega
  have h2 : g < n := by unfold okArc at h; omega
  unfold flowAt xAt
  rw [sumS_sub, hf, hg, sumS_one, sumS_one]
  simp [h1, h2]
theorem sumS_netTo {side : Nat → Bool} {l : List S36} {al : List Int} {n : Nat} (h : okArcs (n : Int) l) (i : Nat) (hi : i ≤ l.length) : sumS side (fun u => netTo (u : Int) l al i) n = xTo side l al i := by
  induction i with
  | zero => simp [netTo, xTo, sumS_zero]
  | succ i ih =>
    have hx : okArc (n : Int) (l.getD i z36) := h _ (by simp [List.getD, show i < l.length by omega])
    simp only [netTo, xTo]
    rw [sumS_add, ih (by omega), sumS_flowAt hx]
def cutTo (side : List Bool) (l : List S36) : Nat → Int
  | 0 => 0
  | i + 1 => cutTo side l i + cutOf side (l.getD i z36)
theorem cutTo_take (side : List Bool) (l : List S36) (i : Nat) (hi : i ≤ l.length) : cutTo side l i = cut side (l.take i) := by
  induction i with
  | zero => simp [cutTo, cut]
  | succ i ih =>
    have hlt : i < l.length := by omega
    rw [cutTo, ih (by omega), List.take_succ_eq_append_getElem hlt, show l.getD i z36 = l[i] by simp [List.getD, hlt]]
    simp only [cut, List.map_append, List.sum_append, List.map_cons, List.map_nil, List.sum_cons, List.sum_nil, Int.add_zero]
theorem cutTo_all (side : List Bool) (l : List S36) : cutTo side l l.length = cut side l := by rw [cutTo_take _ _ _ (Nat.le_refl _), List.take_length]
def sideFn (side : List Bool) : Nat → Bool := fun u => side.getD u false
theorem xTo_le {side : List Bool} {l : List S36} {al : List Int} {v : Int} (hok : okArcs v l) (h : okAl l al) (i : Nat) (hi : i ≤ l.length) : xTo (sideFn side) l al i ≤ cutTo side l i := by
  induction i with
  | zero => simp [xTo, cutTo]
  | succ i ih =>
    have h1 := ih (by omega)
    have h2 := h i (by omega)
    have hx : okArc v (l.getD i z36) := hok _ (by simp [List.getD, show i < l.length by omega])
    have h3 : 0 ≤ (l.getD i z36).f2 := by unfold okArc at hx; omega
    rw [xTo, cutTo]
    generalize l.getD i z36 = a at hx h2 h3 ⊢
    generalize xTo (sideFn side) l al i = X at h1 ⊢
    unfold xAt cutOf sideFn
    by_cases c1 : side.getD a.f0.toNat false = true <;> by_cases c2 : side.getD a.f1.toNat false = true
    · simp only [if_pos c1, if_pos c2]; rw [if_neg (fun h => by rw [c2] at h; exact absurd h.2 (by decide))]; omega
    · simp only [if_pos c1, if_neg c2]; rw [if_pos ⟨c1, by simpa using c2⟩]; omega
    · simp only [if_neg c1, if_pos c2]; rw [if_neg (fun h => c1 h.1)]; omega
    · simp only [if_neg c1, if_neg c2]; rw [if_neg (fun h => c1 h.1)]; omega
theorem sumS_st {side : Nat → Bool} {g : Nat → Int} {S T : Nat} (hS : side S = true) (hST : S ≠ T) (n : Nat) (h : ∀ u, u < n → u ≠ S → u ≠ T → g u = 0) : sumS side g n = (if S < n then g S else 0) + (if T < n ∧ side T = true then g T else 0) := by
  induction n with
  | zero => simp [sumS]
  | succ n ih =>
    simp only [sumS, ih (fun u hu => h u (by omega))]
    by_cases c1 : n = S
    · subst c1
      rw [if_pos hS, if_neg (show ¬ n < n by omega), if_pos (show n < n + 1 by omega)]
      by_cases c : T < n ∧ side T = true
      · rw [if_pos c, if_pos ⟨by omega, c.2⟩]; omega
      · rw [if_neg c, if_neg (fun q => c ⟨by omega, q.2⟩)]; omega
    · by_cases c2 : n = T
      · subst c2
        rw [if_neg (show ¬ (n < n ∧ side n = true) by omega)]
        have e : (if S < n + 1 then g S else 0) = (if S < n then g S else 0) := by
          by_cases q : S < n
          · rw [if_pos q, if_pos (by omega)]
          · rw [if_neg q, if_neg (by omega)]
        rw [e]
        by_cases c : side n = true
        · rw [if_pos c, if_pos (show n < n + 1 ∧ side n = true from ⟨by omega, c⟩)]; omega
        · rw [if_neg c, if_neg (show ¬ (n < n + 1 ∧ side n = true) from fun q => c q.2), Int.add_zero]
      · have e0 := h n (by omega) c1 c2
        have e1 : (if S < n + 1 then g S else 0) = (if S < n then g S else 0) := by
          by_cases q : S < n
          · rw [if_pos q, if_pos (by omega)]
          · rw [if_neg q, if_neg (by omega)]
        have e2 : (if T < n + 1 ∧ side T = true then g T else 0) = (if T < n ∧ side T = true then g T else 0) := by
          by_cases q : T < n ∧ side T = true
          · rw [if_pos q, if_pos ⟨by omega, q.2⟩]
          · rw [if_neg q, if_neg (fun r => q ⟨by omega, r.2⟩)]
        rw [e1, e2, e0]
        split <;> omega
/-- the value of a flow is what it brings out of any set with s and without t -/
theorem flow_across {n : Nat} {l : List S36} {S T : Nat} {al : List Int} (hok : okArcs (n : Int) l) (hf : isFlow n l (S : Int) (T : Int) al) (hS : S < n) (hT : T < n) (hST : S ≠ T) {side : Nat → Bool} (h1 : side S = true) :
    netAt (S : Int) l al + (if side T = true then netAt (T : Int) l al else 0) = xTo side l al l.length := by
  rw [← sumS_netTo hok l.length (Nat.le_refl _)]
  rw [sumS_st (g := fun u => netTo (u : Int) l al l.length) h1 hST n (fun u hu h2 h3 => hf.2.2 u hu (by omega) (by omega))]
  rw [if_pos hS]
  unfold netAt
  by_cases c : side T = true
  · rw [if_pos c, if_pos ⟨hT, c⟩]
  · rw [if_neg c, if_neg (fun q => c q.2)]
/-- weak duality -/
theorem duality {n : Nat} {l : List S36} {s t : Int} {al : List Int} {side : List Bool} (he : endsOf (n : Int) l s t = 0) (hf : isFlow n l s t al) (hc : isCut n s t side) : netAt s l al ≤ cut side l := by
  obtain ⟨h, hs0, hs1, ht0, ht1, hst⟩ := endsOf_ok he
  obtain ⟨_, _, _, h4⟩ := chk_ok h
  obtain ⟨S, rfl⟩ : ∃ S : Nat, s = (S : Int) := ⟨s.toNat, by omega⟩
  obtain ⟨T, rfl⟩ : ∃ T : Nat, t = (T : Int) := ⟨t.toNat, by omega⟩
  have e1 := flow_across (side := sideFn side) h4 hf (by omega) (by omega) (by omega) hc.2.1
  have e2 : sideFn side T = false := hc.2.2
  rw [e2, if_neg (by decide)] at e1
  have e3 := xTo_le (side := side) h4 hf.2.1 l.length (Nat.le_refl _)
  rw [cutTo_all] at e3
  omega
theorem netAt_bound {n : Nat} {l : List S36} {s t : Int} {al : List Int} (h : chk (n : Int) l = 0) (hf : isFlow n l s t al) (u : Int) : -1125899906842624 ≤ netAt u l al ∧ netAt u l al ≤ 1125899906842624 := by
  obtain ⟨_, _, h3, h4⟩ := chk_ok h
  have := netTo_bound u l al l.length (okAl_cap hf.2.1 h4)
  unfold netAt
  omega
abbrev Stp := Nat × Bool
def arc (l : List S36) (i : Nat) : S36 := l.getD i z36
def fromV (l : List S36) (x : Stp) : Nat := if x.2 = true then (arc l x.1).f1.toNat else (arc l x.1).f0.toNat
def toV (l : List S36) (x : Stp) : Nat := if x.2 = true then (arc l x.1).f0.toNat else (arc l x.1).f1.toNat
def room (l : List S36) (al : List Int) (x : Stp) : Int := if x.2 = true then al.getD x.1 0 else (arc l x.1).f2 - al.getD x.1 0
theorem arc_ok {n : Nat} {l : List S36} (h : okArcs (n : Int) l) {i : Nat} (hi : i < l.length) : okArc (n : Int) (arc l i) := h _ (by simp [arc, List.getD, hi])
theorem toV_lt {n : Nat} {l : List S36} (h : okArcs (n : Int) l) {x : Stp} (hi : x.1 < l.length) : toV l x < n := by
  have := arc_ok h hi
  unfold okArc at this
  unfold toV
  split <;> omega
theorem fromV_lt {n : Nat} {l : List S36} (h : okArcs (n : Int) l) {x : Stp} (hi : x.1 < l.length) : fromV l x < n := by
  have := arc_ok h hi
  unfold okArc at this
  unfold fromV
  split <;> omega

/-! ### the search, plain -/
structure ASt where
  D : List Nat
  par : Nat → Stp
noncomputable def aStep (l : List S36) (al : List Int) (st : ASt) (x : Stp) : ASt :=
  if 0 < room l al x ∧ ¬ toV l x ∈ st.D then ⟨st.D ++ [toV l x], fun v => if v = toV l x then x else st.par v⟩ else st
structure AInv (n : Nat) (l : List S36) (al : List Int) (s : Nat) (st : ASt) : Prop where
  nodup : st.D.Nodup
  lt : ∀ v, v ∈ st.D → v < n
  head : st.D[0]? = some s
  par : ∀ idx v, st.D[idx]? = some v → v ≠ s → (st.par v).1 < l.length ∧ toV l (st.par v) = v ∧ 0 < room l al (st.par v) ∧ ∃ j : Nat, j < idx ∧ st.D[j]? = some (fromV l (st.par v))
theorem AInv.first {n : Nat} {l : List S36} {al : List Int} {s : Nat} (hs : s < n) (p : Nat → Stp) : AInv n l al s ⟨[s], p⟩ := by
  refine ⟨by simp, fun v hv => by simp at hv; omega, by simp, fun idx v h hne => ?_⟩
  cases idx with
  | zero => simp at h; exact absurd h.symm hne
  | succ j => simp at h
theorem aStep_inv {n : Nat} {l : List S36} {al : List Int} {s : Nat} {st : ASt} (hok : okArcs (n : Int) l) (h : AInv n l al s st) {x : Stp} (hx : x.1 < l.length) (hf : fromV l x ∈ st.D) : AInv n l al s (aStep l al st x) := by
  unfold aStep
  split
  · rename_i hc
    obtain ⟨h1, h2⟩ := hc
    have hs : s ∈ st.D := List.mem_of_getElem? h.head
    have hlen : 0 < st.D.length := (List.getElem?_eq_some_iff.1 h.head).1
    refine ⟨?_, ?_, ?_, ?_⟩
    · rw [List.nodup_append]
      refine ⟨h.nodup, by simp, fun a ha b hb e => ?_⟩
      simp at hb
      subst hb; subst e
      exact h2 ha
    · intro v hv
      simp at hv
      rcases hv with hv | rfl
      · exact h.lt v hv
      · exact toV_lt hok hx
    · rw [List.getElem?_append_left hlen]; exact h.head
    · intro idx v hv hne
      rcases Nat.lt_or_ge idx st.D.length with hl | hl
      · rw [List.getElem?_append_left hl] at hv
        have hvD : v ∈ st.D := List.mem_of_getElem? hv
        have hne2 : v ≠ toV l x := fun e => h2 (e ▸ hvD)
        obtain ⟨p1, p2, p3, j, hj, p4⟩ := h.par idx v hv hne
        simp only [if_neg hne2]
        exact ⟨p1, p2, p3, j, hj, by rw [List.getElem?_append_left (by omega)]; exact p4⟩
      · rw [List.getElem?_append_right hl] at hv
        have e : idx - st.D.length = 0 := by
          have := (List.getElem?_eq_some_iff.1 hv).1
          simpa using this
        rw [e] at hv
        simp at hv
        subst hv
        simp only [if_pos]
        obtain ⟨j, hj⟩ := List.getElem?_of_mem hf
        have hjl := (List.getElem?_eq_some_iff.1 hj).1
        exact ⟨hx, trivial, h1, j, by omega, by rw [List.getElem?_append_left hjl]; exact hj⟩
  · exact h
theorem aStep_pre (l : List S36) (al : List Int) (st : ASt) (x : Stp) : ∃ E, (aStep l al st x).D = st.D ++ E := by
  unfold aStep
  split
  · exact ⟨_, rfl⟩
  · exact ⟨[], by simp⟩
theorem aStep_in (l : List S36) (al : List Int) (st : ASt) (x : Stp) (h : 0 < room l al x) : toV l x ∈ (aStep l al st x).D := by
  unfold aStep
  split
  · simp
  · rename_i hc
    by_cases c : toV l x ∈ st.D
    · exact c
    · exact absurd ⟨h, c⟩ hc
noncomputable def aInner (l : List S36) (al : List Int) (xs : List Stp) (st : ASt) : ASt := xs.foldl (aStep l al) st
theorem aInner_inv {n : Nat} {l : List S36} {al : List Int} {s : Nat} (hok : okArcs (n : Int) l) (v : Nat) : ∀ (xs : List Stp) (st : ASt), AInv n l al s st → v ∈ st.D → (∀ x ∈ xs, x.1 < l.length ∧ fromV l x = v) →
    AInv n l al s (aInner l al xs st) ∧ (∃ E, (aInner l al xs st).D = st.D ++ E) ∧ ∀ x ∈ xs, 0 < room l al x → toV l x ∈ (aInner l al xs st).D := by
  intro xs
  induction xs with
  | nil => intro st h _ _; exact ⟨h, ⟨[], by simp [aInner]⟩, by simp⟩
  | cons x xs ih =>
    intro st h hv hx
    obtain ⟨h1, h2⟩ := hx x (by simp)
    have hi := aStep_inv hok h h1 (by rw [h2]; exact hv)
    obtain ⟨E, hE⟩ := aStep_pre l al st x
    obtain ⟨q1, ⟨E2, q2⟩, q3⟩ := ih (aStep l al st x) hi (by rw [hE]; simp [hv]) (fun y hy => hx y (by simp [hy]))
    have e : aInner l al (x :: xs) st = aInner l al xs (aStep l al st x) := rfl
    rw [e]
    refine ⟨q1, ⟨E ++ E2, by rw [q2, hE, List.append_assoc]⟩, fun y hy hr => ?_⟩
    rcases List.mem_cons.1 hy with rfl | hy
    · rw [q2]; exact List.mem_append_left _ (aStep_in l al st _ hr)
    · exact q3 y hy hr

/-! ### rows of steps -/
def adjTo (l : List S36) (i : Nat) (v : Nat) : List Stp := (List.range i).flatMap fun j => (if (arc l j).f0 = (v : Int) then [(j, false)] else []) ++ (if (arc l j).f1 = (v : Int) then [(j, true)] else [])
theorem adjTo_succ (l : List S36) (i v : Nat) : adjTo l (i + 1) v = adjTo l i v ++ ((if (arc l i).f0 = (v : Int) then [(i, false)] else []) ++ (if (arc l i).f1 = (v : Int) then [(i, true)] else [])) := by
  unfold adjTo
  rw [List.range_succ, List.flatMap_append]
  simp
theorem adjTo_mem {n : Nat} {l : List S36} (hok : okArcs (n : Int) l) (v : Nat) (x : Stp) : ∀ i, i ≤ l.length → (x ∈ adjTo l i v ↔ x.1 < i ∧ fromV l x = v) := by
  intro i
  induction i with
  | zero => intro _; simp [adjTo]
  | succ i ih =>
    intro hi
    rw [adjTo_succ, List.mem_append, ih (by omega)]
    have ho := arc_ok hok (show i < l.length by omega)
    unfold okArc at ho
    obtain ⟨j, b⟩ := x
    constructor
    · rintro (h | h)
      · exact ⟨by omega, h.2⟩
      · rw [List.mem_append] at h
        rcases h with h | h
        · split at h
          · simp at h; obtain ⟨rfl, rfl⟩ := h
            refine ⟨by simp, ?_⟩
            simp [fromV]; omega
          · simp at h
        · split at h
          · simp at h; obtain ⟨rfl, rfl⟩ := h
            refine ⟨by simp, ?_⟩
            simp [fromV]; omega
          · simp at h
    · rintro ⟨h1, h2⟩
      simp only at h1
      by_cases c : j < i
      · exact .inl ⟨c, h2⟩
      · right
        obtain rfl : j = i := by omega
        rw [List.mem_append]
        cases b with
        | false =>
          left
          have e : (arc l j).f0 = (v : Int) := by simp [fromV] at h2; omega
          rw [if_pos e]; simp
        | true =>
          right
          have e : (arc l j).f1 = (v : Int) := by simp [fromV] at h2; omega
          rw [if_pos e]; simp
theorem adjTo_len (l : List S36) (v i : Nat) : (adjTo l i v).length ≤ 2 * i := by
  induction i with
  | zero => simp [adjTo]
  | succ i ih =>
    rw [adjTo_succ, List.length_append, List.length_append]
    split <;> split <;> simp <;> omega
def pAt {α : Type} (enc : Stp → α) : Nat → List S36 → List (List α) → Option (List (List α))
  | _, [], at_ => some at_
  | i, a :: xs, at_ => (gPut at_ a.f0 (enc (i, false))).bind fun at1 => (gPut at1 a.f1 (enc (i, true))).bind (pAt enc (i + 1) xs)
theorem gPut_ok {α : Type} {rows : List (List α)} {n v : Nat} (x : α) (hn : rows.length = n) (hv : v < n) (hl : (rows.getD v []).length < 1099511627776) :
    ∃ rows', gPut rows (v : Int) x = some rows' ∧ rows'.length = n ∧ ∀ u, u < n → rows'.getD u [] = rows.getD u [] ++ (if v = u then [x] else []) := by
  unfold gPut
  rw [if_pos ⟨by omega, by omega, by simpa using hl⟩]
  refine ⟨_, rfl, by simpa using hn, fun u hu => ?_⟩
  simp only [Int.toNat_natCast, List.getD_eq_getElem?_getD, List.getElem?_set]
  by_cases c : v = u
  · subst c; simp [hn, hv]
  · simp [c]
theorem pAt_ok {α : Type} (enc : Stp → α) {n : Nat} {l : List S36} (hok : okArcs (n : Int) l) (hl : l.length ≤ 1024) (d : Nat) : ∀ (i : Nat) (rows : List (List α)), i + d = l.length → rows.length = n → (∀ v, v < n → rows.getD v [] = (adjTo l i v).map enc) →
    ∃ rows', pAt enc i (l.drop i) rows = some rows' ∧ rows'.length = n ∧ ∀ v, v < n → rows'.getD v [] = (adjTo l l.length v).map enc := by
  induction d with
  | zero =>
    intro i rows hi hn hr
    obtain rfl : i = l.length := by omega
    exact ⟨rows, by simp [pAt], hn, hr⟩
  | succ d ih =>
    intro i rows hi hn hr
    have hil : i < l.length := by omega
    rw [getD_drop z36 l i hil]
    have ho := arc_ok hok hil
    unfold okArc at ho
    change ∃ rows', pAt enc i (arc l i :: l.drop (i + 1)) rows = some rows' ∧ _
    obtain ⟨f, hf⟩ : ∃ f : Nat, (arc l i).f0 = (f : Int) := ⟨(arc l i).f0.toNat, by omega⟩
    obtain ⟨g, hg⟩ : ∃ g : Nat, (arc l i).f1 = (g : Int) := ⟨(arc l i).f1.toNat, by omega⟩
    have hb : ∀ v, (adjTo l i v).length < 2000000 := fun v => by have := adjTo_len l v i; omega
    obtain ⟨r1, e1, n1, h1⟩ := gPut_ok (n := n) (v := f) (enc (i, false)) hn (by omega) (by rw [hr f (by omega), List.length_map]; have := hb f; omega)
    obtain ⟨r2, e2, n2, h2⟩ := gPut_ok (n := n) (v := g) (enc (i, true)) n1 (by omega) (by
      rw [h1 g (by omega), hr g (by omega), List.length_append, List.length_map]
      have := hb g
      split <;> simp <;> omega)
    obtain ⟨r3, e3, n3, h3⟩ := ih (i + 1) r2 (by omega) n2 (fun v hv => by
      rw [h2 v hv, h1 v hv, hr v hv, adjTo_succ, hf, hg, List.map_append, List.append_assoc]
      congr 1
      rw [List.map_append]
      congr 1
      · by_cases c : f = v
        · simp [c]
        · rw [if_neg c, if_neg (by omega)]; rfl
      · by_cases c : g = v
        · simp [c]
        · rw [if_neg c, if_neg (by omega)]; rfl)
    refine ⟨r3, ?_, n3, h3⟩
    simp only [pAt, hf, hg, e1, e2, Option.bind_some]
    exact e3
def encS (x : Stp) : S86 := ⟨(x.1 : Int), x.2⟩
def encI (x : Stp) : Int := if x.2 = true then wrap64 (wrap64 (2 * (x.1 : Int)) + 1) else wrap64 (2 * (x.1 : Int))
theorem gAt_pAt : ∀ (xs : List S36) (i : Nat) (rows : List (List S86)), gAt i xs rows = pAt encS i xs rows
  | [], _, _ => rfl
  | a :: xs, i, rows => by
    simp only [gAt, pAt, show encS (i, false) = ⟨(i : Int), false⟩ from rfl, show encS (i, true) = ⟨(i : Int), true⟩ from rfl, show gAt (i + 1) xs = pAt encS (i + 1) xs from funext (gAt_pAt xs (i + 1))]
theorem encI_f (i : Nat) : encI (i, false) = wrap64 (2 * (i : Int)) := by unfold encI; rw [if_neg (show ¬ (false = true) by decide)]
theorem encI_t (i : Nat) : encI (i, true) = wrap64 (wrap64 (2 * (i : Int)) + 1) := by unfold encI; rw [if_pos rfl]
theorem rAt_pAt (xs : List S36) : ∀ (i : Nat), rAt i xs = pAt encI i xs := by
  induction xs with
  | nil => intro i; funext rows; rw [rAt.eq_1, pAt.eq_1]
  | cons a xs ih => intro i; funext rows; rw [rAt.eq_2, pAt.eq_2, encI_f, encI_t, ih (i + 1)]
theorem encI_val {x : Stp} (h : x.1 ≤ 1024) : encI x = 2 * (x.1 : Int) + (if x.2 = true then 1 else 0) := by
  unfold encI
  rw [wr0 (x := 2 * (x.1 : Int)) (by omega) (by omega)]
  split
  · rw [wr0 (by omega) (by omega)]
  · omega
theorem encI_half {x : Stp} (h : x.1 ≤ 1024) : rHalf (encI x) = (x.1 : Int) := by
  unfold rHalf
  rw [encI_val h]
  have e : Int.tdiv (2 * (x.1 : Int) + (if x.2 = true then 1 else 0)) 2 = (x.1 : Int) := by
    rw [Int.tdiv_eq_ediv_of_nonneg (by split <;> omega)]; split <;> omega
  rw [e, wr0 (by omega) (by omega)]
theorem encI_mod {x : Stp} (h : x.1 ≤ 1024) : Int.tmod (encI x) 2 = if x.2 = true then 1 else 0 := by
  rw [encI_val h, Int.tmod_eq_emod_of_nonneg (by split <;> omega)]
  split <;> omega
/-- a network with a flow's numbers -/
structure Net (n : Nat) (l : List S36) (al : List Int) : Prop where
  hn : n ≤ 256
  hl : l.length ≤ 1024
  ok : okArcs (n : Int) l
  len : al.length = l.length
  al : okAl l al
theorem Net.room_bd {n : Nat} {l : List S36} {al : List Int} (h : Net n l al) {x : Stp} (hx : x.1 < l.length) : 0 ≤ room l al x ∧ room l al x ≤ 1099511627776 := by
  have h1 := h.al x.1 hx
  have h2 := arc_ok h.ok hx
  unfold okArc at h2
  unfold room
  change 0 ≤ al.getD x.1 0 ∧ al.getD x.1 0 ≤ (arc l x.1).f2 at h1
  split <;> omega
theorem toV_int {n : Nat} {l : List S36} (h : okArcs (n : Int) l) {x : Stp} (hi : x.1 < l.length) : ((toV l x : Nat) : Int) = if x.2 = true then (arc l x.1).f0 else (arc l x.1).f1 := by
  have := arc_ok h hi
  unfold okArc at this
  unfold toV
  split <;> omega
theorem fromV_int {n : Nat} {l : List S36} (h : okArcs (n : Int) l) {x : Stp} (hi : x.1 < l.length) : ((fromV l x : Nat) : Int) = if x.2 = true then (arc l x.1).f1 else (arc l x.1).f0 := by
  have := arc_ok h hi
  unfold okArc at this
  unfold fromV
  split <;> omega
theorem srRoom_eq {n : Nat} {l : List S36} {al : List Int} (h : Net n l al) {x : Stp} (hx : x.1 < l.length) : srRoom l al (encS x) = room l al x := by
  have h1 := h.room_bd hx
  unfold srRoom encS room
  simp only [rd_nat, rd36_nat]
  unfold room at h1
  split
  · rfl
  · rename_i c
    rw [if_neg c] at h1
    exact wr0 (by unfold arc at h1; omega) (by unfold arc at h1; omega)
theorem srTo_eq {n : Nat} {l : List S36} (h : okArcs (n : Int) l) {x : Stp} (hx : x.1 < l.length) : srTo l (encS x) = ((toV l x : Nat) : Int) := by
  rw [toV_int h hx]
  unfold srTo encS
  simp only [rd36_nat]
  rfl

/-! ### flow.search -/
structure SRel (n s : Nat) (st : ASt) (seen : List Bool) (how : List S86) : Prop where
  l1 : seen.length = n
  l2 : how.length = n
  yes : ∀ v, v < n → (seen.getD v false = true ↔ v ∈ st.D)
  how : ∀ v, v ∈ st.D → v ≠ s → how.getD v z86 = encS (st.par v)
theorem nodup_len : ∀ {n : Nat} {D : List Nat}, D.Nodup → (∀ v, v ∈ D → v < n) → D.length ≤ n := by
  intro n
  induction n with
  | zero =>
    intro D _ hlt
    cases D with
    | nil => simp
    | cons a D => exact absurd (hlt a (by simp)) (by omega)
  | succ n ih =>
    intro D h hlt
    have h1 : (D.erase n).length ≤ n := ih (h.erase n) (fun v hv => by
      have := (h.mem_erase_iff).1 hv
      have := hlt v this.2
      omega)
    have h2 := List.length_erase (a := n) (l := D)
    split at h2 <;> omega
theorem srStep_sim {n s : Nat} {l : List S36} {al : List Int} (h : Net n l al) {st : ASt} (hi : AInv n l al s st) {x : Stp} (hx : x.1 < l.length) (hf : fromV l x ∈ st.D) {seen : List Bool} {how : List S86} (hr : SRel n s st seen how) {k : Nat} (hk : k ≤ st.D.length) :
    ∃ seen' how', srStep l al ⟨seen, how, (st.D.drop k).map Int.ofNat⟩ (encS x) = some ⟨seen', how', ((aStep l al st x).D.drop k).map Int.ofNat⟩ ∧ SRel n s (aStep l al st x) seen' how' := by
  have hto := toV_lt h.ok hx
  have hlenD := nodup_len hi.nodup hi.lt
  have hn := h.hn
  unfold srStep
  simp only [srRoom_eq h hx, srTo_eq h.ok hx]
  rw [if_pos ⟨by simp [encS], by simp only [encS]; omega, by have := h.len; simp only [encS]; omega, by omega, by have := hr.l1; omega, by have := hr.l2; omega, by simp only [List.length_map, List.length_drop]; omega⟩]
  have e : rdOf false seen ((toV l x : Nat) : Int) = seen.getD (toV l x) false := rdOf_nat _ _ _
  rw [e]
  unfold aStep
  by_cases c1 : 0 < room l al x
  · rw [if_pos c1]
    by_cases c2 : toV l x ∈ st.D
    · rw [if_pos ((hr.yes _ hto).2 c2), if_neg (fun q => q.2 c2)]
      exact ⟨_, _, rfl, hr⟩
    · rw [if_neg (fun q => c2 ((hr.yes _ hto).1 q)), if_pos ⟨c1, c2⟩]
      refine ⟨seen.set (toV l x) true, how.set (toV l x) (encS x), ?_, ?_⟩
      · rw [List.drop_append_of_le_length hk, List.map_append]; rfl
      · refine ⟨by simpa using hr.l1, by simpa using hr.l2, fun v hv => ?_, fun v hv hne => ?_⟩
        · simp only [Int.toNat_natCast, List.getD_eq_getElem?_getD, List.getElem?_set, List.mem_append, List.mem_singleton]
          have := hr.yes v hv
          rw [List.getD_eq_getElem?_getD] at this
          by_cases q : toV l x = v
          · subst q; simp [hr.l1, hv]
          · rw [if_neg q, this]
            constructor
            · exact fun p => .inl p
            · rintro (p | p)
              · exact p
              · exact absurd p.symm q
        · simp only [Int.toNat_natCast, List.getD_eq_getElem?_getD, List.getElem?_set]
          by_cases q : toV l x = v
          · subst q; simp [hr.l2, hto]
          · have hv2 : v ∈ st.D := by
              rcases List.mem_append.1 hv with p | p
              · exact p
              · exact absurd (List.mem_singleton.1 p).symm q
            have := hr.how v hv2 hne
            rw [List.getD_eq_getElem?_getD] at this
            rw [if_neg q, if_neg (fun p => q p.symm), this]
  · rw [if_neg c1, if_neg (fun q => c1 q.1)]
    exact ⟨_, _, rfl, hr⟩
theorem srInner_sim {n s : Nat} {l : List S36} {al : List Int} (h : Net n l al) (v : Nat) (k : Nat) : ∀ (xs : List Stp) (st : ASt) (seen : List Bool) (how : List S86), AInv n l al s st → v ∈ st.D → k ≤ st.D.length → (∀ x ∈ xs, x.1 < l.length ∧ fromV l x = v) → SRel n s st seen how →
    ∃ seen' how', srInner l al (xs.map encS) ⟨seen, how, (st.D.drop k).map Int.ofNat⟩ = some ⟨seen', how', ((aInner l al xs st).D.drop k).map Int.ofNat⟩ ∧ SRel n s (aInner l al xs st) seen' how' := by
  intro xs
  induction xs with
  | nil => intro st seen how _ _ _ _ hr; exact ⟨_, _, rfl, hr⟩
  | cons x xs ih =>
    intro st seen how hi hv hk hx hr
    obtain ⟨h1, h2⟩ := hx x (by simp)
    obtain ⟨s1, w1, e1, r1⟩ := srStep_sim h hi h1 (by rw [h2]; exact hv) hr hk
    obtain ⟨E, hE⟩ := aStep_pre l al st x
    obtain ⟨s2, w2, e2, r2⟩ := ih (aStep l al st x) s1 w1 (aStep_inv h.ok hi h1 (by rw [h2]; exact hv)) (by rw [hE]; simp [hv]) (by rw [hE, List.length_append]; omega) (fun y hy => hx y (by simp [hy])) r1
    refine ⟨s2, w2, ?_, r2⟩
    simp only [List.map_cons, srInner, e1, Option.bind_some]
    exact e2
/-- what a search has found when it ends -/
structure Found (n s : Nat) (l : List S36) (al : List Int) (st : ASt) : Prop where
  inv : AInv n l al s st
  closed : ∀ x : Stp, x.1 < l.length → fromV l x ∈ st.D → 0 < room l al x → toV l x ∈ st.D
theorem srLoop_sim {n s : Nat} {l : List S36} {al : List Int} (h : Net n l al) {at_ : List (List S86)} (hat : at_.length = n) (hrows : ∀ v, v < n → at_.getD v [] = (adjTo l l.length v).map encS) : ∀ (f k : Nat) (st : ASt) (seen : List Bool) (how : List S86), n < f + k → AInv n l al s st → k ≤ st.D.length →
    (∀ j u, j < k → st.D[j]? = some u → ∀ x : Stp, x.1 < l.length → fromV l x = u → 0 < room l al x → toV l x ∈ st.D) → SRel n s st seen how →
    ∃ seen' how' st', srLoop l al at_ f ⟨seen, how, (st.D.drop k).map Int.ofNat⟩ = some (seen', how') ∧ Found n s l al st' ∧ SRel n s st' seen' how' := by
  intro f
  induction f with
  | zero =>
    intro k st seen how hf hi hk
    have := nodup_len hi.nodup hi.lt
    omega
  | succ f ih =>
    intro k st seen how hf hi hk hcl hr
    rcases Nat.lt_or_ge k st.D.length with hlt | hge
    · have hd : st.D.drop k = st.D[k] :: st.D.drop (k + 1) := List.drop_eq_getElem_cons hlt
      have hvD : st.D[k] ∈ st.D := List.getElem_mem hlt
      have hvn := hi.lt _ hvD
      generalize hv : st.D[k] = v at hd hvD hvn
      rw [hd, List.map_cons]
      simp only [srLoop]
      rw [if_pos ⟨by simp, by simp only [Int.ofNat_eq_natCast]; omega⟩]
      have e0 : (Int.ofNat v).toNat = v := rfl
      rw [e0, hrows v hvn]
      have hx : ∀ x ∈ adjTo l l.length v, x.1 < l.length ∧ fromV l x = v := fun x hx => (adjTo_mem h.ok v x l.length (Nat.le_refl _)).1 hx
      obtain ⟨s1, w1, e1, r1⟩ := srInner_sim (s := s) h v (k + 1) (adjTo l l.length v) st seen how hi hvD (by omega) hx hr
      obtain ⟨q1, ⟨E, q2⟩, q3⟩ := aInner_inv h.ok v (adjTo l l.length v) st hi hvD hx
      rw [e1]
      simp only [Option.bind_some]
      refine ih (k + 1) _ s1 w1 (by omega) q1 (by rw [q2, List.length_append]; omega) ?_ r1
      intro j u hj hu x hx1 hx2 hx3
      by_cases c : j = k
      · subst c
        rw [q2, List.getElem?_append_left hlt, List.getElem?_eq_getElem hlt, hv] at hu
        obtain rfl := Option.some.inj hu
        exact q3 x ((adjTo_mem h.ok _ x l.length (Nat.le_refl _)).2 ⟨hx1, hx2⟩) hx3
      · rw [q2, List.getElem?_append_left (by omega)] at hu
        rw [q2]
        exact List.mem_append_left _ (hcl j u (by omega) hu x hx1 hx2 hx3)
    · rw [List.drop_of_length_le hge]
      refine ⟨seen, how, st, by simp [srLoop], ⟨hi, fun x hx1 hx2 hx3 => ?_⟩, hr⟩
      obtain ⟨j, hj⟩ := List.getElem?_of_mem hx2
      have := (List.getElem?_eq_some_iff.1 hj).1
      exact hcl j _ (by omega) hj x hx1 rfl hx3
theorem search_ok {n s : Nat} {l : List S36} {al : List Int} (h : Net n l al) (hs : s < n) {at_ : List (List S86)} (hat : at_.length = n) (hrows : ∀ v, v < n → at_.getD v [] = (adjTo l l.length v).map encS) {k : Nat} (hk : n < k) :
    ∃ seen how st, flow_search.f k (n : Int) l al at_ (s : Int) = some (seen, how) ∧ Found n s l al st ∧ SRel n s st seen how := by
  have hn := h.hn
  unfold flow_search.f
  rw [if_pos ⟨by omega, by omega, by omega⟩]
  have e1 : ((n : Int)).toNat = n := rfl
  have e2 : ((s : Int)).toNat = s := rfl
  rw [e1, e2]
  refine srLoop_sim h hat hrows k 0 ⟨[s], fun _ => (0, false)⟩ _ _ (by omega) (AInv.first hs _) (by simp) (fun j u hj => by omega) ⟨by simp, by simp, fun v hv => ?_, fun v hv hne => ?_⟩
  · simp only [List.getD_eq_getElem?_getD, List.getElem?_set, List.mem_singleton]
    by_cases q : s = v
    · subst q; simp [hs]
    · rw [if_neg q]; simp [List.getElem?_replicate, hv]; exact fun p => q p.symm
  · simp at hv; exact absurd hv hne
theorem flowAt_add (v : Int) (a : S36) (x d : Int) : flowAt v a (x + d) = flowAt v a x + flowAt v a d := by
  unfold flowAt
  split <;> split <;> omega
theorem netTo_set (u : Int) (l : List S36) (al : List Int) (i : Nat) (z : Int) (hi : i < al.length) : ∀ k, netTo u l (al.set i z) k = netTo u l al k + (if i < k then flowAt u (arc l i) (z - al.getD i 0) else 0) := by
  intro k
  induction k with
  | zero => simp [netTo]
  | succ k ih =>
    simp only [netTo, ih]
    by_cases c : i = k
    · subst c
      have e : (al.set i z).getD i 0 = al.getD i 0 + (z - al.getD i 0) := by simp [List.getD, hi]; omega
      rw [if_neg (show ¬ i < i by omega), if_pos (show i < i + 1 by omega), e, flowAt_add]
      change _ = netTo u l al i + flowAt u (l.getD i z36) (al.getD i 0) + flowAt u (l.getD i z36) (z - al.getD i 0)
      omega
    · have e : (al.set i z).getD k 0 = al.getD k 0 := by simp [List.getD, List.getElem?_set, c]
      rw [e]
      by_cases q : i < k
      · rw [if_pos q, if_pos (by omega)]; omega
      · rw [if_neg q, if_neg (by omega)]; omega
/-- what a step brings out of u -/
def dlt (l : List S36) (u : Nat) (x : Stp) : Int := (if fromV l x = u then 1 else 0) - (if toV l x = u then 1 else 0)
def amtSet (al : List Int) (m : Int) (x : Stp) : Int := if x.2 = true then al.getD x.1 0 - m else al.getD x.1 0 + m
theorem step_net {n : Nat} {l : List S36} {al : List Int} (h : Net n l al) {x : Stp} (hx : x.1 < l.length) {m : Int} (hm0 : 0 < m) (hm : m ≤ room l al x) :
    Net n l (al.set x.1 (amtSet al m x)) ∧ (∀ y : Stp, y.1 ≠ x.1 → room l (al.set x.1 (amtSet al m x)) y = room l al y) ∧ ∀ u : Nat, netAt (u : Int) l (al.set x.1 (amtSet al m x)) = netAt (u : Int) l al + m * dlt l u x := by
  have ho := arc_ok h.ok hx
  have hal := h.al x.1 hx
  change 0 ≤ al.getD x.1 0 ∧ al.getD x.1 0 ≤ (arc l x.1).f2 at hal
  have hlen := h.len
  refine ⟨⟨h.hn, h.hl, h.ok, by simpa using h.len, fun j hj => ?_⟩, fun y hy => ?_, fun u => ?_⟩
  · by_cases c : x.1 = j
    · subst c
      have e : (al.set x.1 (amtSet al m x)).getD x.1 0 = amtSet al m x := by simp [List.getD, hlen, hx]
      rw [e]
      change 0 ≤ amtSet al m x ∧ amtSet al m x ≤ (arc l x.1).f2
      unfold amtSet
      unfold room at hm
      split at hm
      · rename_i q; rw [if_pos q]; omega
      · rename_i q; rw [if_neg q]; omega
    · have e : (al.set x.1 (amtSet al m x)).getD j 0 = al.getD j 0 := by simp [List.getD, List.getElem?_set, c]
      rw [e]; exact h.al j hj
  · unfold room
    have e : (al.set x.1 (amtSet al m x)).getD y.1 0 = al.getD y.1 0 := by simp [List.getD, List.getElem?_set, Ne.symm hy]
    rw [e]
  · unfold netAt
    rw [netTo_set _ _ _ _ _ (by omega), if_pos hx]
    congr 1
    obtain ⟨i, b⟩ := x
    have e0 : ((arc l i).f0 = (u : Int)) ↔ (arc l i).f0.toNat = u := by unfold okArc at ho; simp only at ho; omega
    have e1 : ((arc l i).f1 = (u : Int)) ↔ (arc l i).f1.toNat = u := by unfold okArc at ho; simp only at ho; omega
    unfold dlt flowAt amtSet fromV toV
    cases b with
    | true =>
      simp only [if_pos]
      by_cases c0 : (arc l i).f0 = (u : Int) <;> by_cases c1 : (arc l i).f1 = (u : Int)
      · rw [if_pos c0, if_pos c1, if_pos (e1.1 c1), if_pos (e0.1 c0)]; omega
      · rw [if_pos c0, if_neg c1, if_neg (fun q => c1 (e1.2 q)), if_pos (e0.1 c0)]; omega
      · rw [if_neg c0, if_pos c1, if_pos (e1.1 c1), if_neg (fun q => c0 (e0.2 q))]; omega
      · rw [if_neg c0, if_neg c1, if_neg (fun q => c1 (e1.2 q)), if_neg (fun q => c0 (e0.2 q))]; omega
    | false =>
      simp only [Bool.false_eq_true, if_false]
      by_cases c0 : (arc l i).f0 = (u : Int) <;> by_cases c1 : (arc l i).f1 = (u : Int)
      · rw [if_pos c0, if_pos c1, if_pos (e0.1 c0), if_pos (e1.1 c1)]; omega
      · rw [if_pos c0, if_neg c1, if_pos (e0.1 c0), if_neg (fun q => c1 (e1.2 q))]; omega
      · rw [if_neg c0, if_pos c1, if_neg (fun q => c0 (e0.2 q)), if_pos (e1.1 c1)]; omega
      · rw [if_neg c0, if_neg c1, if_neg (fun q => c0 (e0.2 q)), if_neg (fun q => c1 (e1.2 q))]; omega
def gain (l : List S36) (u : Nat) : List Stp → Int
  | [] => 0
  | x :: P => dlt l u x + gain l u P
theorem apply_ok {n : Nat} {l : List S36} {m : Int} (hm0 : 0 < m) : ∀ (P : List Stp) (al : List Int), Net n l al → P.Pairwise (fun x y => x.1 ≠ y.1) → (∀ x ∈ P, x.1 < l.length ∧ m ≤ room l al x) →
    ∃ al', gApply m (P.map encS) al = some al' ∧ xApp m (P.map encI) al = some al' ∧ Net n l al' ∧ ∀ u : Nat, netAt (u : Int) l al' = netAt (u : Int) l al + m * gain l u P := by
  intro P
  induction P with
  | nil => intro al h _ _; exact ⟨al, rfl, rfl, h, fun u => by simp [gain]⟩
  | cons x P ih =>
    intro al h hp hx
    obtain ⟨h1, h2⟩ := hx x (by simp)
    obtain ⟨q1, q2, q3⟩ := step_net h h1 hm0 h2
    obtain ⟨p1, p2⟩ := List.pairwise_cons.1 hp
    obtain ⟨al', e1, e2, h3, h4⟩ := ih (al.set x.1 (amtSet al m x)) q1 p2 (fun y hy => by
      have := hx y (by simp [hy])
      exact ⟨this.1, by rw [q2 y (fun e => p1 y hy e.symm)]; exact this.2⟩)
    have hb := h.room_bd h1
    have hal := h.al x.1 h1
    change 0 ≤ al.getD x.1 0 ∧ al.getD x.1 0 ≤ (arc l x.1).f2 at hal
    have ho := arc_ok h.ok h1
    unfold okArc at ho
    have hlen := h.len
    have hl := h.hl
    have hx24 : x.1 ≤ 1024 := by omega
    have w1 : wrap64 (al.getD x.1 0 - m) = al.getD x.1 0 - m := wr0 (by omega) (by omega)
    have w2 : wrap64 (al.getD x.1 0 + m) = al.getD x.1 0 + m := wr0 (by omega) (by omega)
    refine ⟨al', ?_, ?_, h3, fun u => ?_⟩
    · simp only [List.map_cons, gApply]
      rw [if_pos ⟨by simp [encS], by simp only [encS]; omega⟩]
      simp only [encS, rd_nat, w1, w2, Int.toNat_natCast]
      exact e1
    · simp only [List.map_cons, xApp]
      rw [encI_half hx24, encI_mod hx24, if_pos ⟨by omega, by omega⟩]
      simp only [rd_nat, w1, w2, Int.toNat_natCast]
      rw [← e2]
      congr 2
      unfold amtSet
      by_cases c : x.2 = true
      · simp [c]
      · simp [c]
    · rw [h4 u, q3 u]
      simp only [gain]
      rw [Int.mul_add]; omega

/-! ### chains -/
def Chain (l : List S36) (al : List Int) (s : Nat) : Nat → List Stp → Prop
  | v, [] => v = s
  | v, x :: P => v ≠ s ∧ x.1 < l.length ∧ toV l x = v ∧ 0 < room l al x ∧ Chain l al s (fromV l x) P
theorem chain_gain {l : List S36} {al : List Int} {s : Nat} (u : Nat) : ∀ (P : List Stp) (v : Nat), Chain l al s v P → gain l u P = (if s = u then 1 else 0) - (if v = u then 1 else 0) := by
  intro P
  induction P with
  | nil => intro v h; obtain rfl : v = s := h; simp [gain]
  | cons x P ih =>
    intro v h
    obtain ⟨_, _, h3, _, h5⟩ := h
    simp only [gain, ih _ h5, dlt, h3]
    omega
theorem chain_mem {l : List S36} {al : List Int} {s : Nat} : ∀ (P : List Stp) (v : Nat), Chain l al s v P → ∀ x ∈ P, x.1 < l.length ∧ 0 < room l al x := by
  intro P
  induction P with
  | nil => intro v _ x hx; simp at hx
  | cons y P ih =>
    intro v h x hx
    obtain ⟨_, h2, _, h4, h5⟩ := h
    rcases List.mem_cons.1 hx with rfl | hx
    · exact ⟨h2, h4⟩
    · exact ih _ h5 x hx
theorem same_arc {l : List S36} {x y : Stp} (h : x.1 = y.1) : (toV l x = toV l y ∧ fromV l x = fromV l y) ∨ (toV l x = fromV l y ∧ fromV l x = toV l y) := by
  obtain ⟨i, b⟩ := x
  obtain ⟨j, c⟩ := y
  obtain rfl : i = j := h
  cases b <;> cases c <;> simp [toV, fromV]
/-- what a chain's steps look like, and that no arc comes twice -/
structure Good (st : ASt) (l : List S36) (al : List Int) (s : Nat) (idx v : Nat) (P : List Stp) : Prop where
  chain : Chain l al s v P
  arcs : P.Pairwise (fun x y => x.1 ≠ y.1)
  ind : ∀ x ∈ P, ∃ i j : Nat, j < i ∧ i ≤ idx ∧ st.D[i]? = some (toV l x) ∧ st.D[j]? = some (fromV l x)
  len : P.length ≤ idx
theorem good_cons {n : Nat} {l : List S36} {al : List Int} {s : Nat} {st : ASt} (hi : AInv n l al s st) {idx v j : Nat} {P : List Stp} (hv : st.D[idx]? = some v) (hne : v ≠ s) (hx : (st.par v).1 < l.length) (hto : toV l (st.par v) = v) (hr : 0 < room l al (st.par v)) (hj : j < idx)
    (hf : st.D[j]? = some (fromV l (st.par v))) (g : Good st l al s j (fromV l (st.par v)) P) : Good st l al s idx v (st.par v :: P) := by
  refine ⟨⟨hne, hx, hto, hr, g.chain⟩, List.pairwise_cons.2 ⟨fun y hy e => ?_, g.arcs⟩, fun y hy => ?_, by have := g.len; simp; omega⟩
  · obtain ⟨i, j2, h1, h2, h3, h4⟩ := g.ind y hy
    have hil := (List.getElem?_eq_some_iff.1 hv).1
    rcases same_arc (l := l) e with ⟨e1, _⟩ | ⟨e1, e2⟩
    · rw [← e1, hto] at h3
      have := (List.getElem?_inj hil hi.nodup).1 (hv.trans h3.symm)
      omega
    · rw [← e1, hto] at h4
      have := (List.getElem?_inj hil hi.nodup).1 (hv.trans h4.symm)
      omega
  · rcases List.mem_cons.1 hy with rfl | hy
    · exact ⟨idx, j, hj, Nat.le_refl _, by rw [hto]; exact hv, hf⟩
    · obtain ⟨i, j2, h1, h2, h3, h4⟩ := g.ind y hy
      exact ⟨i, j2, h1, by omega, h3, h4⟩
theorem rd86_nat (l : List S86) (i : Nat) : rd_T86 l (i : Int) = l.getD i z86 := by simp [rd_T86]
def gAmt (l : List S36) (al : List Int) (m : Int) (x : Stp) : Int := if m < 0 ∨ room l al x < m then room l al x else m
theorem gAmt_fold (l : List S36) (al : List Int) : ∀ (P : List Stp) (m : Int), (m < 0 ∨ 0 < m) → (∀ x ∈ P, 0 < room l al x) →
    (0 < m → 0 < P.foldl (gAmt l al) m ∧ P.foldl (gAmt l al) m ≤ m) ∧ (P ≠ [] → 0 < P.foldl (gAmt l al) m) ∧ ∀ x ∈ P, P.foldl (gAmt l al) m ≤ room l al x := by
  intro P
  induction P with
  | nil => intro m _ _; exact ⟨fun h => ⟨h, Int.le_refl _⟩, fun h => absurd rfl h, by simp⟩
  | cons x P ih =>
    intro m hm hx
    have h0 := hx x (by simp)
    have e : (x :: P).foldl (gAmt l al) m = P.foldl (gAmt l al) (gAmt l al m x) := rfl
    rw [e]
    have h1 : 0 < gAmt l al m x ∧ gAmt l al m x ≤ room l al x ∧ (0 < m → gAmt l al m x ≤ m) := by
      unfold gAmt
      split <;> refine ⟨?_, ?_, ?_⟩ <;> omega
    obtain ⟨q1, _, q3⟩ := ih (gAmt l al m x) (.inr h1.1) (fun y hy => hx y (by simp [hy]))
    obtain ⟨q4, q5⟩ := q1 h1.1
    refine ⟨fun h => ⟨q4, ?_⟩, fun _ => q4, fun y hy => ?_⟩
    · have := h1.2.2 h; omega
    · rcases List.mem_cons.1 hy with rfl | hy
      · omega
      · exact q3 y hy
theorem gPath_ok {n s : Nat} {l : List S36} {al : List Int} (h : Net n l al) {st : ASt} (hi : AInv n l al s st) {seen : List Bool} {how : List S86} (hr : SRel n s st seen how) (idx : Nat) : ∀ v, st.D[idx]? = some v →
    ∃ P, Good st l al s idx v P ∧ ∀ (f : Nat) (amt : Int) (p : List S86), idx < f → p.length + idx ≤ 1000 → gPath l al how (s : Int) f (v : Int) amt p = some (P.foldl (gAmt l al) amt, p ++ P.map encS) := by
  induction idx using Nat.strongRecOn with
  | ind idx ih =>
    intro v hv
    by_cases c : v = s
    · subst c
      refine ⟨[], ⟨rfl, by simp, by simp, by simp⟩, fun f amt p hf hp => ?_⟩
      obtain ⟨f, rfl⟩ : ∃ g, f = g + 1 := ⟨f - 1, by omega⟩
      simp [gPath]
    · obtain ⟨h1, h2, h3, j, hj, hfj⟩ := hi.par idx v hv c
      obtain ⟨P, g, hP⟩ := ih j hj _ hfj
      refine ⟨st.par v :: P, good_cons hi hv c h1 h2 h3 hj hfj g, fun f amt p hf hp => ?_⟩
      obtain ⟨f, rfl⟩ : ∃ g, f = g + 1 := ⟨f - 1, by omega⟩
      have hvD : v ∈ st.D := List.mem_of_getElem? hv
      have hvn := hi.lt v hvD
      have e1 : rd_T86 how (v : Int) = encS (st.par v) := by rw [rd86_nat]; exact hr.how v hvD c
      have hlen := h.len
      simp only [gPath, e1]
      rw [if_neg (by omega), if_pos ⟨by omega, by have := hr.l2; omega, by simp [encS], by simp only [encS]; omega, by simp only [encS]; omega, by omega⟩, srRoom_eq h h1]
      have e2 : (if (encS (st.par v)).f1 = true then (rd_T36 l (encS (st.par v)).f0).f1 else (rd_T36 l (encS (st.par v)).f0).f0) = ((fromV l (st.par v) : Nat) : Int) := by
        rw [fromV_int h.ok h1]
        simp only [encS, rd36_nat]
        rfl
      rw [e2, hP f _ _ (by omega) (by simp; omega)]
      simp only [List.foldl_cons, List.map_cons, List.append_assoc, List.cons_append, List.nil_append]
      rfl
/-- a flow that no path makes greater, and the vertices that can still be reached -/
structure Best (n : Nat) (l : List S36) (s t : Nat) (al : List Int) (sd : List Bool) : Prop where
  flow : isFlow n l (s : Int) (t : Int) al
  st : ∃ st, Found n s l al st ∧ t ∉ st.D ∧ sd.length = n ∧ ∀ v, v < n → (sd.getD v false = true ↔ v ∈ st.D)
theorem isFlow_net {n : Nat} {l : List S36} {s t : Int} {al : List Int} (h : chk (n : Int) l = 0) (hf : isFlow n l s t al) : Net n l al := by
  obtain ⟨h1, h2, h3, h4⟩ := chk_ok h
  exact ⟨by omega, h3, h4, hf.1, hf.2.1⟩
theorem augment {n : Nat} {l : List S36} {s t : Nat} {al : List Int} (h : chk (n : Int) l = 0) (hst : s ≠ t) (hf : isFlow n l (s : Int) (t : Int) al) {P : List Stp} (hc : Chain l al s t P) (ha : P.Pairwise (fun x y => x.1 ≠ y.1)) {m : Int} (hm0 : 0 < m) (hm : ∀ x ∈ P, m ≤ room l al x) :
    ∃ al', gApply m (P.map encS) al = some al' ∧ xApp m (P.map encI) al = some al' ∧ isFlow n l (s : Int) (t : Int) al' ∧ netAt (s : Int) l al' = netAt (s : Int) l al + m := by
  have hN := isFlow_net h hf
  obtain ⟨al', e1, e2, h3, h4⟩ := apply_ok hm0 P al hN ha (fun x hx => ⟨(chain_mem P t hc x hx).1, hm x hx⟩)
  refine ⟨al', e1, e2, ⟨h3.len, h3.al, fun u hu hus hut => ?_⟩, ?_⟩
  · rw [h4 u, chain_gain u P t hc, if_neg (by omega), if_neg (by omega), hf.2.2 u hu hus hut]; simp
  · rw [h4 s, chain_gain s P t hc, if_pos rfl, if_neg (Ne.symm hst)]; simp
theorem gMain_step {n : Nat} {l : List S36} {s t : Nat} (he : endsOf (n : Int) l (s : Int) (t : Int) = 0) {at_ : List (List S86)} (hat : at_.length = n) (hrows : ∀ v, v < n → at_.getD v [] = (adjTo l l.length v).map encS) (al : List Int) (k : Nat)
    (hf : isFlow n l (s : Int) (t : Int) al) (hk : n + 2 < k)
    (ih : ∀ al', isFlow n l (s : Int) (t : Int) al' → netAt (s : Int) l al < netAt (s : Int) l al' → ∃ al2 sd, gMain (n : Int) l at_ (s : Int) (t : Int) (k - 1) al' (netAt (s : Int) l al') = some (netAt (s : Int) l al2, al2, sd) ∧ Best n l s t al2 sd) :
    ∃ al' sd, gMain (n : Int) l at_ (s : Int) (t : Int) k al (netAt (s : Int) l al) = some (netAt (s : Int) l al', al', sd) ∧ Best n l s t al' sd := by
  obtain ⟨hc, hs0, hs1, ht0, ht1, hst⟩ := endsOf_ok he
  have hst' : s ≠ t := by omega
  have hN := isFlow_net hc hf
  obtain ⟨k, rfl⟩ : ∃ g, k = g + 1 := ⟨k - 1, by omega⟩
  simp only [Nat.add_sub_cancel] at ih
  obtain ⟨seen, how, st, e1, hfd, hr⟩ := search_ok hN (show s < n by omega) hat hrows (show n < k by omega)
  have ht : t < n := by omega
  simp only [gMain, e1, Option.bind_some]
  rw [if_pos ⟨by omega, by have := hr.l1; omega⟩, rdOf_nat]
  by_cases c : t ∈ st.D
  · rw [if_pos ((hr.yes t ht).2 c)]
    obtain ⟨idx, hidx⟩ := List.getElem?_of_mem c
    have hil := (List.getElem?_eq_some_iff.1 hidx).1
    have hDn := nodup_len hfd.inv.nodup hfd.inv.lt
    have hn := hN.hn
    obtain ⟨P, g, hP⟩ := gPath_ok hN hfd.inv hr idx t hidx
    rw [hP k (-1) [] (by omega) (by simp; omega)]
    simp only [Option.bind_some, List.nil_append]
    have hmem := chain_mem P t g.chain
    have hne : P ≠ [] := by
      rintro rfl
      exact hst' (g.chain : t = s).symm
    obtain ⟨_, q2, q3⟩ := gAmt_fold l al P (-1) (.inl (by omega)) (fun x hx => (hmem x hx).2)
    obtain ⟨al', a1, _, a3, a4⟩ := augment hc hst' hf g.chain g.arcs (q2 hne) q3
    rw [a1]
    simp only [Option.bind_some]
    have hb := netAt_bound hc a3 (s : Int)
    rw [← a4, wr0 (by omega) (by omega)]
    exact ih al' a3 (by have := q2 hne; omega)
  · rw [if_neg (fun q => c ((hr.yes t ht).1 q))]
    exact ⟨al, seen, rfl, hf, st, hfd, c, hr.l1, hr.yes⟩
theorem zero_flow {n : Nat} {l : List S36} (h : okArcs (n : Int) l) (s t : Int) : isFlow n l s t (List.replicate l.length 0) ∧ ∀ u, netAt u l (List.replicate l.length 0) = 0 := by
  have hz : ∀ j, (List.replicate l.length (0 : Int)).getD j 0 = 0 := fun j => by
    rw [List.getD_eq_getElem?_getD, List.getElem?_replicate]; split <;> rfl
  have hnet : ∀ (u : Int) k, netTo u l (List.replicate l.length 0) k = 0 := fun u k => by
    induction k with
    | zero => rfl
    | succ k ih => simp only [netTo, ih, hz, flowAt]; split <;> split <;> rfl
  refine ⟨⟨by simp, fun j hj => ?_, fun u _ _ _ => hnet _ _⟩, fun u => hnet _ _⟩
  have := arc_ok h hj
  unfold okArc arc at this
  rw [hz]; omega
theorem rows_zero {α : Type} (n : Nat) (l : List S36) (enc : Stp → α) : ∀ v, v < n → (List.replicate n ([] : List α)).getD v [] = (adjTo l 0 v).map enc := by
  intro v hv
  rw [List.getD_eq_getElem?_getD, List.getElem?_replicate, if_pos hv]; rfl
theorem gMain_ok {n : Nat} {l : List S36} {s t : Nat} (he : endsOf (n : Int) l (s : Int) (t : Int) = 0) {at_ : List (List S86)} (hat : at_.length = n) (hrows : ∀ v, v < n → at_.getD v [] = (adjTo l l.length v).map encS) : ∀ (N : Nat) (al : List Int) (k : Nat),
    isFlow n l (s : Int) (t : Int) al → 1125899906842624 - netAt (s : Int) l al ≤ (N : Int) → N + n + 3 ≤ k →
    ∃ al' sd, gMain (n : Int) l at_ (s : Int) (t : Int) k al (netAt (s : Int) l al) = some (netAt (s : Int) l al', al', sd) ∧ Best n l s t al' sd := by
  obtain ⟨hc, hs0, hs1, ht0, ht1, hst⟩ := endsOf_ok he
  have hst' : s ≠ t := by omega
  intro N
  induction N with
  | zero => 
    intro al k hf hN hk
    exact gMain_step he hat hrows al k hf (by omega) (fun al' hf' hlt => by have := (netAt_bound hc hf' (s : Int)).2; omega)
  | succ N ih =>
    intro al k hf hN hk
    exact gMain_step he hat hrows al k hf (by omega) (fun al' hf' hlt => ih al' (k - 1) hf' (by omega) (by omega))
theorem greatest_ok {n : Nat} {l : List S36} {s t : Nat} (he : endsOf (n : Int) l (s : Int) (t : Int) = 0) : ∃ al sd, Ev (fun k => flow_greatest.f k (n : Int) l (s : Int) (t : Int)) (netAt (s : Int) l al, al, sd) ∧ Best n l s t al sd := by
  obtain ⟨hc, hs0, hs1, ht0, ht1, hst⟩ := endsOf_ok he
  obtain ⟨h1, h2, h3, h4⟩ := chk_ok hc
  obtain ⟨z1, z2⟩ := zero_flow h4 (s : Int) (t : Int)
  obtain ⟨rows, r1, r2, r3⟩ := pAt_ok encS h4 h3 l.length 0 (List.replicate n []) (by omega) (by simp) (rows_zero n l encS)
  rw [List.drop_zero, ← gAt_pAt] at r1
  obtain ⟨al, sd, e, hb⟩ := gMain_ok he r2 r3 1125899906842624 _ (1125899906842624 + n + 3) z1 (by rw [z2]; decide) (Nat.le_refl _)
  rw [z2] at e
  refine ⟨al, sd, ⟨1125899906842624 + n + 3, fun k hk => ?_⟩, hb⟩
  have hm : ∀ d, gMain (n : Int) l rows (s : Int) (t : Int) (1125899906842624 + n + 3 + d) (List.replicate l.length 0) 0 = some (netAt (s : Int) l al, al, sd) := by
    intro d
    induction d with
    | zero => exact e
    | succ d ih => exact gMain_mono _ _ _ _ _ _ _ _ _ ih
  show flow_greatest.f k (n : Int) l (s : Int) (t : Int) = _
  unfold flow_greatest.f
  rw [if_pos ⟨by omega, by omega, by omega⟩]
  have e1 : ((n : Int)).toNat = n := rfl
  rw [e1, r1]
  simp only [Option.bind_some]
  have := hm (k - (1125899906842624 + n + 3))
  rwa [show 1125899906842624 + n + 3 + (k - (1125899906842624 + n + 3)) = k by omega] at this
structure RRel (n s : Nat) (st : ASt) (step : List Int) : Prop where
  len : step.length = n
  no : ∀ v, v < n → ¬ v ∈ st.D → step.getD v 0 = -2
  yes : ∀ v, v ∈ st.D → v ≠ s → step.getD v 0 = encI (st.par v)
  start : step.getD s 0 = -1
theorem RRel.not2 {n s : Nat} {l : List S36} {al : List Int} {st : ASt} {step : List Int} (hl : l.length ≤ 1024) (hi : AInv n l al s st) (h : RRel n s st step) {v : Nat} (hv : v ∈ st.D) : step.getD v 0 ≠ -2 := by
  by_cases c : v = s
  · subst c; rw [h.start]; decide
  · rw [h.yes v hv c]
    obtain ⟨i, hi2⟩ := List.getElem?_of_mem hv
    have := (hi.par i v hi2 c).1
    rw [encI_val (by omega)]
    split <;> omega
theorem rTo_eq {n : Nat} {l : List S36} (hl : l.length ≤ 1024) (h : okArcs (n : Int) l) {x : Stp} (hx : x.1 < l.length) : rTo l (encI x) = ((toV l x : Nat) : Int) := by
  rw [toV_int h hx]
  unfold rTo
  rw [encI_half (by omega), encI_mod (by omega), rd36_nat]
  by_cases c : x.2 = true
  · rw [if_pos c, if_pos c, if_pos rfl]; rfl
  · rw [if_neg c, if_neg c, if_neg (by decide)]; rfl
theorem rOpen_eq {l : List S36} (hl : l.length ≤ 1024) (al : List Int) {x : Stp} (hx : x.1 < l.length) : rOpen l al (encI x) = decide (0 < room l al x) := by
  unfold rOpen room
  rw [encI_half (by omega), encI_mod (by omega), rd36_nat, rd_nat]
  by_cases c : x.2 = true
  · rw [if_pos c, if_pos c, if_pos rfl]
  · rw [if_neg c, if_neg c, if_neg (by decide)]
    apply decide_eq_decide.2
    unfold arc
    omega
theorem rStep_sim {n s : Nat} {l : List S36} {al : List Int} (h : Net n l al) {st : ASt} (hi : AInv n l al s st) {x : Stp} (hx : x.1 < l.length) (hf : fromV l x ∈ st.D) {step : List Int} (hr : RRel n s st step) :
    ∃ step', rStep l al ⟨step, st.D.map Int.ofNat⟩ (encI x) = some ⟨step', (aStep l al st x).D.map Int.ofNat⟩ ∧ RRel n s (aStep l al st x) step' := by
  have hto := toV_lt h.ok hx
  have hlenD := nodup_len hi.nodup hi.lt
  have hn := h.hn
  have hl := h.hl
  have hlen := h.len
  have hsD : s ∈ st.D := List.mem_of_getElem? hi.head
  unfold rStep
  simp only [rTo_eq hl h.ok hx, rOpen_eq hl al hx, encI_half (show x.1 ≤ 1024 by omega)]
  rw [if_pos ⟨by omega, by omega, by omega, by omega, by have := hr.len; omega, by simp only [List.length_map]; omega⟩, rd_nat]
  unfold aStep
  by_cases c1 : 0 < room l al x
  · by_cases c2 : toV l x ∈ st.D
    · rw [if_neg (fun q => hr.not2 hl hi c2 q.2), if_neg (fun q => q.2 c2)]
      exact ⟨_, rfl, hr⟩
    · rw [if_pos ⟨by simpa using c1, hr.no _ hto c2⟩, if_pos ⟨c1, c2⟩]
      refine ⟨step.set (toV l x) (encI x), by rw [List.map_append]; rfl, by simpa using hr.len, fun v hv hvD => ?_, fun v hv hne => ?_, ?_⟩
      · have q : ¬ toV l x = v := fun e => hvD (by simp [e])
        have q2 : ¬ v ∈ st.D := fun e => hvD (by simp [e])
        have := hr.no v hv q2
        rw [List.getD_eq_getElem?_getD] at this ⊢
        rw [List.getElem?_set, if_neg q, this]
      · by_cases q : toV l x = v
        · subst q
          rw [List.getD_eq_getElem?_getD, List.getElem?_set]
          simp [hr.len, hto]
        · have hv2 : v ∈ st.D := by
            rcases List.mem_append.1 hv with p | p
            · exact p
            · exact absurd (List.mem_singleton.1 p).symm q
          have := hr.yes v hv2 hne
          rw [List.getD_eq_getElem?_getD] at this ⊢
          rw [List.getElem?_set, if_neg q, this]
          show encI (st.par v) = encI (if v = toV l x then x else st.par v)
          rw [if_neg (fun p => q p.symm)]
      · have q : ¬ toV l x = s := fun e => c2 (e ▸ hsD)
        have := hr.start
        rw [List.getD_eq_getElem?_getD] at this ⊢
        rw [List.getElem?_set, if_neg q, this]
  · rw [if_neg (fun q => c1 (by simpa using q.1)), if_neg (fun q => c1 q.1)]
    exact ⟨_, rfl, hr⟩
theorem rInner_sim {n s : Nat} {l : List S36} {al : List Int} (h : Net n l al) (v : Nat) : ∀ (xs : List Stp) (st : ASt) (step : List Int), AInv n l al s st → v ∈ st.D → (∀ x ∈ xs, x.1 < l.length ∧ fromV l x = v) → RRel n s st step →
    ∃ step', rInner l al (xs.map encI) ⟨step, st.D.map Int.ofNat⟩ = some ⟨step', (aInner l al xs st).D.map Int.ofNat⟩ ∧ RRel n s (aInner l al xs st) step' := by
  intro xs
  induction xs with
  | nil => intro st step _ _ _ hr; exact ⟨_, rfl, hr⟩
  | cons x xs ih =>
    intro st step hi hv hx hr
    obtain ⟨h1, h2⟩ := hx x (by simp)
    obtain ⟨s1, e1, r1⟩ := rStep_sim h hi h1 (by rw [h2]; exact hv) hr
    obtain ⟨E, hE⟩ := aStep_pre l al st x
    obtain ⟨s2, e2, r2⟩ := ih (aStep l al st x) s1 (aStep_inv h.ok hi h1 (by rw [h2]; exact hv)) (by rw [hE]; simp [hv]) (fun y hy => hx y (by simp [hy])) r1
    refine ⟨s2, ?_, r2⟩
    simp only [List.map_cons, rInner, e1, Option.bind_some]
    exact e2
theorem rLoop_sim {n s : Nat} {l : List S36} {al : List Int} (h : Net n l al) {at_ : List (List Int)} (hat : at_.length = n) (hrows : ∀ v, v < n → at_.getD v [] = (adjTo l l.length v).map encI) : ∀ (f k : Nat) (st : ASt) (step : List Int), n < f + k → AInv n l al s st → k ≤ st.D.length →
    (∀ j u, j < k → st.D[j]? = some u → ∀ x : Stp, x.1 < l.length → fromV l x = u → 0 < room l al x → toV l x ∈ st.D) → RRel n s st step →
    ∃ step' st', rLoop l al at_ f k ⟨step, st.D.map Int.ofNat⟩ = some step' ∧ Found n s l al st' ∧ RRel n s st' step' := by
  intro f
  induction f with
  | zero =>
    intro k st step hf hi hk
    have := nodup_len hi.nodup hi.lt
    omega
  | succ f ih =>
    intro k st step hf hi hk hcl hr
    rcases Nat.lt_or_ge k st.D.length with hlt | hge
    · have hvD : st.D[k] ∈ st.D := List.getElem_mem hlt
      have hvn := hi.lt _ hvD
      have hq : rd (st.D.map Int.ofNat) (k : Int) = ((st.D[k] : Nat) : Int) := by rw [rd_nat, List.getD_eq_getElem?_getD, List.getElem?_map, List.getElem?_eq_getElem hlt]; rfl
      generalize hv : st.D[k] = v at hvD hvn hq
      simp only [rLoop, List.length_map, hq]
      rw [if_pos hlt, if_pos ⟨by omega, by omega⟩]
      have e0 : ((v : Int)).toNat = v := rfl
      rw [e0, hrows v hvn]
      have hx : ∀ x ∈ adjTo l l.length v, x.1 < l.length ∧ fromV l x = v := fun x hx => (adjTo_mem h.ok v x l.length (Nat.le_refl _)).1 hx
      obtain ⟨s1, e1, r1⟩ := rInner_sim (s := s) h v (adjTo l l.length v) st step hi hvD hx hr
      obtain ⟨q1, ⟨E, q2⟩, q3⟩ := aInner_inv h.ok v (adjTo l l.length v) st hi hvD hx
      rw [e1]
      simp only [Option.bind_some]
      refine ih (k + 1) _ s1 (by omega) q1 (by rw [q2, List.length_append]; omega) ?_ r1
      intro j u hj hu x hx1 hx2 hx3
      by_cases c : j = k
      · subst c
        rw [q2, List.getElem?_append_left hlt, List.getElem?_eq_getElem hlt, hv] at hu
        obtain rfl := Option.some.inj hu
        exact q3 x ((adjTo_mem h.ok _ x l.length (Nat.le_refl _)).2 ⟨hx1, hx2⟩) hx3
      · rw [q2, List.getElem?_append_left (by omega)] at hu
        rw [q2]
        exact List.mem_append_left _ (hcl j u (by omega) hu x hx1 hx2 hx3)
    · refine ⟨step, st, ?_, ⟨hi, fun x hx1 hx2 hx3 => ?_⟩, hr⟩
      · simp only [rLoop, List.length_map]; rw [if_neg (by omega)]
      · obtain ⟨j, hj⟩ := List.getElem?_of_mem hx2
        have := (List.getElem?_eq_some_iff.1 hj).1
        exact hcl j _ (by omega) hj x hx1 rfl hx3
theorem reach_ok {n s : Nat} {l : List S36} {al : List Int} (h : Net n l al) (hs : s < n) {k : Nat} (hk : n < k) :
    ∃ step st, codewrightref51_Reach.f k (n : Int) l al (s : Int) = some step ∧ Found n s l al st ∧ RRel n s st step := by
  have hn := h.hn
  have hl := h.hl
  obtain ⟨rows, r1, r2, r3⟩ := pAt_ok encI h.ok h.hl l.length 0 (List.replicate n []) (by omega) (by simp) (rows_zero n l encI)
  rw [List.drop_zero, ← rAt_pAt] at r1
  unfold codewrightref51_Reach.f
  rw [if_pos ⟨by omega, by omega, by omega, by omega⟩]
  have e1 : ((n : Int)).toNat = n := rfl
  have e2 : ((s : Int)).toNat = s := rfl
  rw [e1, e2, r1]
  simp only [Option.bind_some]
  refine rLoop_sim h r2 r3 k 0 ⟨[s], fun _ => (0, false)⟩ _ (by omega) (AInv.first hs _) (by simp) (fun j u hj => by omega) ⟨by simp, fun v hv hvD => ?_, fun v hv hne => ?_, ?_⟩
  · have q : ¬ s = v := fun e => hvD (by simp [e])
    rw [List.getD_eq_getElem?_getD, List.getElem?_set, if_neg q]; simp [List.getElem?_replicate, hv]
  · simp at hv; exact absurd hv hne
  · rw [List.getD_eq_getElem?_getD, List.getElem?_set]; simp [hs]

/-! ### the reference's path and its maximum flow -/
theorem path_ok {n s : Nat} {l : List S36} {al : List Int} (h : Net n l al) {st : ASt} (hi : AInv n l al s st) {step : List Int} (hr : RRel n s st step) (nn : Int) (idx : Nat) : ∀ v, st.D[idx]? = some v →
    ∃ P, Good st l al s idx v P ∧ ∀ (f : Nat) (p : List Int), idx < f → p.length + idx ≤ 1000 → codewrightref51_path.l0 f step p (v : Int) nn l = some (p ++ P.map encI) := by
  have hl := h.hl
  induction idx using Nat.strongRecOn with
  | ind idx ih =>
    intro v hv
    have hvD : v ∈ st.D := List.mem_of_getElem? hv
    have hvn := hi.lt v hvD
    have hlen := hr.len
    by_cases c : v = s
    · subst c
      refine ⟨[], ⟨rfl, by simp, by simp, by simp⟩, fun f p hf hp => ?_⟩
      obtain ⟨f, rfl⟩ : ∃ g, f = g + 1 := ⟨f - 1, by omega⟩
      rw [codewrightref51_path.l0.eq_2, if_pos (by omega), if_pos (by omega), rd_nat, hr.start, if_neg (by decide)]
      simp
    · obtain ⟨h1, h2, h3, j, hj, hfj⟩ := hi.par idx v hv c
      obtain ⟨P, g, hP⟩ := ih j hj _ hfj
      refine ⟨st.par v :: P, good_cons hi hv c h1 h2 h3 hj hfj g, fun f p hf hp => ?_⟩
      obtain ⟨f, rfl⟩ : ∃ g, f = g + 1 := ⟨f - 1, by omega⟩
      have e1 : rd step (v : Int) = encI (st.par v) := by rw [rd_nat]; exact hr.yes v hvD c
      have e3 : wrap64 (Int.tdiv (encI (st.par v)) 2) = ((st.par v).1 : Int) := encI_half (by omega)
      have e4 := encI_mod (x := st.par v) (by omega)
      have e5 := encI_val (x := st.par v) (by omega)
      rw [codewrightref51_path.l0.eq_2, if_pos (by omega), if_pos (by omega), e1, if_pos (by rw [e5]; split <;> omega), if_pos (by omega)]
      simp only [Option.bind_some, e3, e4, rd36_nat]
      rw [if_pos (by omega), if_pos (by omega)]
      have hfr := fromV_int h.ok h1
      by_cases c2 : (st.par v).2 = true
      · rw [if_pos c2] at hfr
        rw [if_pos c2, if_neg (by decide)]
        change codewrightref51_path.l0 f step _ (arc l (st.par v).1).f1 nn l = _
        rw [← hfr, hP f _ (by omega) (by simp; omega)]
        simp
      · rw [if_neg c2] at hfr
        rw [if_neg c2, if_pos rfl]
        change codewrightref51_path.l0 f step _ (arc l (st.par v).1).f0 nn l = _
        rw [← hfr, hP f _ (by omega) (by simp; omega)]
        simp
theorem xAmt_ok {n : Nat} {l : List S36} {al : List Int} (h : Net n l al) : ∀ (P : List Stp) (m : Int), 0 < m → (∀ x ∈ P, x.1 < l.length ∧ 0 < room l al x) → ∃ r, xAmt l al (P.map encI) m = some r ∧ 0 < r ∧ r ≤ m ∧ ∀ x ∈ P, r ≤ room l al x := by
  have hl := h.hl
  have hlen := h.len
  intro P
  induction P with
  | nil => intro m hm _; exact ⟨m, rfl, hm, Int.le_refl _, by simp⟩
  | cons x P ih =>
    intro m hm hx
    obtain ⟨h1, h2⟩ := hx x (by simp)
    have hb := h.room_bd h1
    have e : xFree l al (encI x) = room l al x := by
      unfold xFree
      rw [encI_half (by omega), encI_mod (by omega), rd_nat, rd36_nat]
      unfold room at hb ⊢
      by_cases c : x.2 = true
      · rw [if_pos c, if_pos c, if_pos rfl]
      · rw [if_neg c, if_neg c, if_neg (by decide)]
        rw [if_neg c] at hb
        exact wr0 (by unfold arc at hb; omega) (by unfold arc at hb; omega)
    have h3 : 0 < mn m (room l al x) ∧ mn m (room l al x) ≤ m ∧ mn m (room l al x) ≤ room l al x := by unfold mn; split <;> omega
    obtain ⟨r, e1, q1, q2, q3⟩ := ih (mn m (room l al x)) h3.1 (fun y hy => hx y (by simp [hy]))
    refine ⟨r, ?_, q1, by omega, fun y hy => ?_⟩
    · simp only [List.map_cons, xAmt, encI_half (show x.1 ≤ 1024 by omega), e]
      rw [if_pos ⟨by omega, by omega, by omega⟩]; exact e1
    · rcases List.mem_cons.1 hy with rfl | hy
      · omega
      · exact q3 y hy
theorem xMain_step {n : Nat} {l : List S36} {s t : Nat} (he : endsOf (n : Int) l (s : Int) (t : Int) = 0) (al : List Int) (k : Nat) (hf : isFlow n l (s : Int) (t : Int) al) (hk : n + 2 < k) {step : List Int} {st : ASt} (hfd : Found n s l al st) (hr : RRel n s st step)
    (ih : ∀ al' step' st', isFlow n l (s : Int) (t : Int) al' → netAt (s : Int) l al < netAt (s : Int) l al' → Found n s l al' st' → RRel n s st' step' → ∃ al2 sd, xMain (n : Int) l (s : Int) (t : Int) (k - 1) al' (netAt (s : Int) l al') step' = some (netAt (s : Int) l al2, al2, sd) ∧ Best n l s t al2 sd) :
    ∃ al' sd, xMain (n : Int) l (s : Int) (t : Int) k al (netAt (s : Int) l al) step = some (netAt (s : Int) l al', al', sd) ∧ Best n l s t al' sd := by
  obtain ⟨hc, hs0, hs1, ht0, ht1, hst⟩ := endsOf_ok he
  have hst' : s ≠ t := by omega
  have hN := isFlow_net hc hf
  obtain ⟨k, rfl⟩ : ∃ g, k = g + 1 := ⟨k - 1, by omega⟩
  simp only [Nat.add_sub_cancel] at ih
  have ht : t < n := by omega
  have hl := hN.hl
  simp only [xMain]
  rw [if_pos ⟨by omega, by have := hr.len; omega, by have := hr.len; omega⟩, rd_nat]
  by_cases c : t ∈ st.D
  · rw [if_neg (hr.not2 hl hfd.inv c)]
    obtain ⟨idx, hidx⟩ := List.getElem?_of_mem c
    have hil := (List.getElem?_eq_some_iff.1 hidx).1
    have hDn := nodup_len hfd.inv.nodup hfd.inv.lt
    have hn := hN.hn
    obtain ⟨P, g, hP⟩ := path_ok hN hfd.inv hr (n : Int) idx t hidx
    have hmem := chain_mem P t g.chain
    obtain ⟨m, a0, q2, _, q3⟩ := xAmt_ok hN P 1099511627776 (by decide) hmem
    obtain ⟨al', _, a2, a3, a4⟩ := augment hc hst' hf g.chain g.arcs q2 q3
    obtain ⟨step2, st2, b1, b2, b3⟩ := reach_ok (isFlow_net hc a3) (show s < n by omega) (show n < k by omega)
    unfold codewrightref51_path.f
    rw [hP k [] (by omega) (by simp; omega)]
    simp only [Option.bind_some, List.nil_append, a0, a2, b1]
    have hb := netAt_bound hc a3 (s : Int)
    rw [← a4, wr0 (by omega) (by omega)]
    exact ih al' step2 st2 a3 (by omega) b2 b3
  · rw [if_pos (hr.no t ht c)]
    refine ⟨al, _, rfl, hf, st, hfd, c, by simp [xSide], fun v hv => ?_⟩
    have e : (xSide step ((n : Int)).toNat).getD v false = (rd step (v : Int) != -2) := by
      unfold xSide
      rw [List.getD_eq_getElem?_getD, List.getElem?_map, List.getElem?_range (show v < ((n : Int)).toNat from hv)]; rfl
    rw [e, rd_nat]
    by_cases q : v ∈ st.D
    · simp only [q, iff_true, bne_iff_ne]; exact hr.not2 hl hfd.inv q
    · rw [hr.no v hv q]; simp [q]
theorem xMain_ok {n : Nat} {l : List S36} {s t : Nat} (he : endsOf (n : Int) l (s : Int) (t : Int) = 0) : ∀ (N : Nat) (al : List Int) (k : Nat) (step : List Int) (st : ASt),
    isFlow n l (s : Int) (t : Int) al → 1125899906842624 - netAt (s : Int) l al ≤ (N : Int) → N + n + 3 ≤ k → Found n s l al st → RRel n s st step →
    ∃ al' sd, xMain (n : Int) l (s : Int) (t : Int) k al (netAt (s : Int) l al) step = some (netAt (s : Int) l al', al', sd) ∧ Best n l s t al' sd := by
  obtain ⟨hc, hs0, hs1, ht0, ht1, hst⟩ := endsOf_ok he
  intro N
  induction N with
  | zero =>
    intro al k step st hf hN hk hfd hr
    exact xMain_step he al k hf (by omega) hfd hr (fun al' _ _ hf' hlt => by have := (netAt_bound hc hf' (s : Int)).2; omega)
  | succ N ih =>
    intro al k step st hf hN hk hfd hr
    exact xMain_step he al k hf (by omega) hfd hr (fun al' step' st' hf' hlt h1 h2 => ih al' (k - 1) step' st' hf' (by omega) (by omega) h1 h2)
theorem refmax_ok {n : Nat} {l : List S36} {s t : Nat} (he : endsOf (n : Int) l (s : Int) (t : Int) = 0) : ∃ al sd, Ev (fun k => codewrightref51_Max.f k (n : Int) l (s : Int) (t : Int)) (netAt (s : Int) l al, al, sd) ∧ Best n l s t al sd := by
  obtain ⟨hc, hs0, hs1, ht0, ht1, hst⟩ := endsOf_ok he
  obtain ⟨h1, h2, h3, h4⟩ := chk_ok hc
  obtain ⟨z1, z2⟩ := zero_flow h4 (s : Int) (t : Int)
  obtain ⟨step, st, b1, b2, b3⟩ := reach_ok (isFlow_net hc z1) (show s < n by omega) (show n < 1125899906842624 + n + 3 by omega)
  obtain ⟨al, sd, e, hb⟩ := xMain_ok he 1125899906842624 _ (1125899906842624 + n + 3) step st z1 (by rw [z2]; decide) (Nat.le_refl _) b2 b3
  rw [z2] at e
  refine ⟨al, sd, ⟨1125899906842624 + n + 3, fun k hk => ?_⟩, hb⟩
  have hm : ∀ d, codewrightref51_Max.f (1125899906842624 + n + 3 + d) (n : Int) l (s : Int) (t : Int) = some (netAt (s : Int) l al, al, sd) := by
    intro d
    induction d with
    | zero =>
      show codewrightref51_Max.f (1125899906842624 + n + 3) (n : Int) l (s : Int) (t : Int) = _
      unfold codewrightref51_Max.f
      rw [if_pos ⟨by omega, by omega, by omega⟩, b1]
      exact e
    | succ d ih => exact codewrightref51_Max.mono _ _ _ _ _ _ ih
  have := hm (k - (1125899906842624 + n + 3))
  rwa [show 1125899906842624 + n + 3 + (k - (1125899906842624 + n + 3)) = k by omega] at this
/-- what a set that no open step leaves does -/
def Shut (l : List S36) (al : List Int) (S : Nat → Prop) : Prop := ∀ x : Stp, x.1 < l.length → S (fromV l x) → 0 < room l al x → S (toV l x)
theorem xTo_shut {side : List Bool} {l : List S36} {al : List Int} {n : Nat} (h : Net n l al) (hS : Shut l al (fun v => side.getD v false = true)) (i : Nat) (hi : i ≤ l.length) : xTo (sideFn side) l al i = cutTo side l i := by
  induction i with
  | zero => rfl
  | succ i ih =>
    have hil : i < l.length := by omega
    have ho := arc_ok h.ok hil
    have ha := h.al i hil
    have s1 := hS (i, false) hil
    have s2 := hS (i, true) hil
    rw [xTo, cutTo, ih (by omega)]
    congr 1
    change _ ∧ al.getD i 0 ≤ (arc l i).f2 at ha
    change xAt (sideFn side) (arc l i) (al.getD i 0) = cutOf side (arc l i)
    simp only [fromV, toV, room, Bool.false_eq_true, if_false, if_true] at s1 s2
    generalize arc l i = a at *
    unfold xAt cutOf sideFn
    cases c1 : side.getD a.f0.toNat false <;> cases c2 : side.getD a.f1.toNat false <;> simp only [c1, c2, Bool.false_eq_true, if_false, if_true, and_true, and_false, true_and, false_and, reduceCtorEq, imp_false, true_implies, false_implies, forall_const] at * <;> omega
theorem best_shut {n : Nat} {l : List S36} {s t : Nat} {al : List Int} {sd : List Bool} (hc : chk (n : Int) l = 0) (h : Best n l s t al sd) : Shut l al (fun v => sd.getD v false = true) := by
  obtain ⟨hf, st, hfd, ht, hl, hv⟩ := h
  obtain ⟨_, _, _, h4⟩ := chk_ok hc
  intro x hx h1 h2
  exact (hv _ (toV_lt h4 hx)).2 (hfd.closed x hx ((hv _ (fromV_lt h4 hx)).1 h1) h2)
theorem best_cut {n : Nat} {l : List S36} {s t : Nat} {al : List Int} {sd : List Bool} (he : endsOf (n : Int) l (s : Int) (t : Int) = 0) (h : Best n l s t al sd) : isCut n (s : Int) (t : Int) sd := by
  obtain ⟨hc, hs0, hs1, ht0, ht1, hst⟩ := endsOf_ok he
  obtain ⟨hf, st, hfd, ht, hl, hv⟩ := h
  refine ⟨hl, (hv s (by omega)).2 (List.mem_of_getElem? hfd.inv.head), ?_⟩
  have := hv t (by omega)
  cases q : sd.getD ((t : Int)).toNat false with
  | false => rfl
  | true => exact absurd (this.1 q) ht
theorem best_val {n : Nat} {l : List S36} {s t : Nat} {al : List Int} {sd : List Bool} (he : endsOf (n : Int) l (s : Int) (t : Int) = 0) (h : Best n l s t al sd) : netAt (s : Int) l al = cut sd l := by
  obtain ⟨hc, hs0, hs1, ht0, ht1, hst⟩ := endsOf_ok he
  obtain ⟨_, _, _, h4⟩ := chk_ok hc
  have hcut := best_cut he h
  have e1 := flow_across (side := sideFn sd) h4 h.flow (show s < n by omega) (show t < n by omega) (by omega) hcut.2.1
  have e2 : sideFn sd t = false := hcut.2.2
  rw [e2, if_neg (by decide)] at e1
  have e3 := xTo_shut (isFlow_net hc h.flow) (best_shut hc h) l.length (Nat.le_refl _)
  rw [cutTo_all] at e3
  omega
theorem best_same {n : Nat} {l : List S36} {s t : Nat} {al al' : List Int} {sd sd' : List Bool} (he : endsOf (n : Int) l (s : Int) (t : Int) = 0) (h : Best n l s t al sd) (h' : Best n l s t al' sd') : netAt (s : Int) l al = netAt (s : Int) l al' := by
  have a := duality he h.flow (best_cut he h')
  have b := duality he h'.flow (best_cut he h)
  rw [← best_val he h'] at a
  rw [← best_val he h] at b
  omega
def setCap (c : Int) (m : List S36) (i : Int) : List S36 := m.set i.toNat ⟨(rd_T36 m i).f0, (rd_T36 m i).f1, c⟩
def givenTo (c : Int) (is : List Int) (m : List S36) : List S36 := is.foldl (setCap c) m
theorem setCap_len (c : Int) (m : List S36) (i : Int) : (setCap c m i).length = m.length := by simp [setCap]
theorem given_l0 (v c : Int) (is : List Int) (hi : is.length < 4611686018427387904) (d : Nat) : ∀ (i : Nat) (m : List S36), i + d = is.length → (∀ x ∈ is, 0 ≤ x ∧ x < (m.length : Int)) →
    Ev (fun k => codewrightref51_Given.l0 k is c (i : Int) v m) (v, givenTo c (is.drop i) m) := by
  induction d with
  | zero =>
    intro i m hd h
    refine Ev.step (fun _ => codewrightref51_Given.l0.eq_2 ..) ?_
    rw [List.drop_of_length_le (by omega)]
    simp only [if_neg (show ¬ ((i : Int) < (is.length : Int)) by omega)]
    exact Ev.same (fun k => rfl)
  | succ d ih =>
    intro i m hd h
    refine Ev.step (fun _ => codewrightref51_Given.l0.eq_2 ..) ?_
    rw [getD_drop 0 is i (by omega), rd_nat]
    have hx : 0 ≤ is.getD i 0 ∧ is.getD i 0 < (m.length : Int) := h _ (by simp [List.getD, show i < is.length by omega])
    have ih' := ih (i + 1) (setCap c m (is.getD i 0)) (by omega) (by rw [setCap_len]; exact h)
    generalize is.getD i 0 = x at hx ih'
    simp only [if_pos (show ((i : Int) < (is.length : Int)) by omega), if_pos (show (0 : Int) ≤ (i : Int) by omega), if_pos hx.1, if_pos hx.2, wr1 (show i < 4611686018427387904 by omega)]
    exact ih'
theorem Given_ev (v c : Int) (l : List S36) (is : List Int) (hl : l.length ≤ 1024) (hi : is.length < 4611686018427387904) (h : ∀ x ∈ is, 0 ≤ x ∧ x < (l.length : Int)) :
    Ev (fun k => codewrightref51_Given.f k v l is c) (v, givenTo c is l) := by
  unfold codewrightref51_Given.f
  simp only [Option.bind_some, List.nil_append, List.length_nil]
  simp only [if_pos (show 0 + l.length < 5864062014805 by omega)]
  have := given_l0 v c is hi is.length 0 l (by omega) h
  simpa using this
/-- two networks of the same arcs, but for their capacities -/
def Alike (l m : List S36) : Prop := m.length = l.length ∧ ∀ i, (arc m i).f0 = (arc l i).f0 ∧ (arc m i).f1 = (arc l i).f1
theorem Alike.refl (l : List S36) : Alike l l := ⟨rfl, fun _ => ⟨rfl, rfl⟩⟩
theorem arc_set (m : List S36) (j : Nat) (a : S36) (i : Nat) : arc (m.set j a) i = if j = i ∧ j < m.length then a else arc m i := by
  unfold arc
  simp only [List.getD_eq_getElem?_getD, List.getElem?_set]
  by_cases c : j = i
  · subst c
    by_cases c2 : j < m.length
    · simp [c2]
    · simp [c2]
  · simp [c]
theorem setCap_arc (c : Int) (m : List S36) (j : Nat) (i : Nat) : arc (setCap c m (j : Int)) i = if j = i ∧ j < m.length then ⟨(arc m i).f0, (arc m i).f1, c⟩ else arc m i := by
  unfold setCap
  rw [show ((j : Int)).toNat = j from rfl, arc_set, rd36_nat]
  split
  · rename_i h; obtain ⟨rfl, h⟩ := h; rfl
  · rfl
theorem setCap_alike (c : Int) (l m : List S36) (j : Nat) (h : Alike l m) : Alike l (setCap c m (j : Int)) := by
  refine ⟨by rw [setCap_len]; exact h.1, fun i => ?_⟩
  rw [setCap_arc]
  split
  · exact h.2 i
  · exact h.2 i
theorem alike_ok {v : Int} {l m : List S36} (h : Alike l m) (hl : okArcs v l) (hc : ∀ i, i < m.length → 0 ≤ (arc m i).f2 ∧ (arc m i).f2 ≤ 1099511627776) : okArcs v m := by
  intro a ha
  obtain ⟨i, hi, rfl⟩ := List.getElem_of_mem ha
  have e : m[i] = arc m i := by simp [arc, List.getD, hi]
  have e2 := hl (arc l i) (by simp [arc, List.getD, show i < l.length by have := h.1; omega])
  rw [e]
  have := h.2 i
  have := hc i hi
  unfold okArc at e2 ⊢
  omega
theorem alike_ends {n : Nat} {l m : List S36} {s t : Int} (h : Alike l m) (he : endsOf (n : Int) l s t = 0) (hc : ∀ i, i < m.length → 0 ≤ (arc m i).f2 ∧ (arc m i).f2 ≤ 1099511627776) : endsOf (n : Int) m s t = 0 := by
  obtain ⟨h0, h1, h2, h3, h4, h5⟩ := endsOf_ok he
  obtain ⟨k1, k2, k3, k4⟩ := chk_ok h0
  have hm : chk (n : Int) m = 0 := by
    unfold chk
    rw [if_neg (by omega), if_neg (by have := h.1; omega), if_pos (alike_ok h k4 hc)]
  unfold endsOf
  rw [if_pos hm, if_neg (by omega), if_neg h5]
theorem givenTo_cons (c : Int) (i : Int) (is : List Int) (m : List S36) : givenTo c (i :: is) m = givenTo c is (setCap c m i) := rfl
theorem lsPut_given (c : Int) : ∀ (is : List Int) (m : List S36), (∀ x ∈ is, 0 ≤ x ∧ x < (m.length : Int)) → lsPut c is m = some (givenTo c is m)
  | [], m, _ => rfl
  | i :: is, m, h => by
    rw [lsPut, if_pos (h i (by simp)), givenTo_cons]
    exact lsPut_given c is _ (fun x hx => by have := h x (by simp [hx]); rw [List.length_set]; exact this)
theorem given_alike (c : Int) (l : List S36) : ∀ (is : List Int) (m : List S36), (∀ x ∈ is, 0 ≤ x) → Alike l m → Alike l (givenTo c is m)
  | [], m, _, h => h
  | i :: is, m, hi, h => by
    rw [givenTo_cons]
    obtain ⟨j, rfl⟩ : ∃ j : Nat, i = (j : Int) := ⟨i.toNat, by have := hi i (by simp); omega⟩
    exact given_alike c l is _ (fun x hx => hi x (by simp [hx])) (setCap_alike c l m j h)
theorem given_caps (c : Int) (hc0 : 0 ≤ c) (hc1 : c ≤ 1099511627776) : ∀ (is : List Int) (m : List S36), (∀ x ∈ is, 0 ≤ x) → (∀ i, i < m.length → 0 ≤ (arc m i).f2 ∧ (arc m i).f2 ≤ 1099511627776) →
    ∀ i, i < (givenTo c is m).length → 0 ≤ (arc (givenTo c is m) i).f2 ∧ (arc (givenTo c is m) i).f2 ≤ 1099511627776
  | [], m, _, h => h
  | i :: is, m, hi, h => by
    rw [givenTo_cons]
    obtain ⟨j, rfl⟩ : ∃ j : Nat, i = (j : Int) := ⟨i.toNat, by have := hi i (by simp); omega⟩
    refine given_caps c hc0 hc1 is _ (fun x hx => hi x (by simp [hx])) (fun q hq => ?_)
    rw [setCap_len] at hq
    rw [setCap_arc]
    split
    · exact ⟨hc0, hc1⟩
    · exact h q hq
theorem given_ends {n : Nat} {l : List S36} {s t : Int} (he : endsOf (n : Int) l s t = 0) {c : Int} (hc0 : 0 ≤ c) (hc1 : c ≤ 1099511627776) {is : List Int} (hi : ∀ x ∈ is, 0 ≤ x) : endsOf (n : Int) (givenTo c is l) s t = 0 := by
  obtain ⟨h0, _⟩ := endsOf_ok he
  obtain ⟨_, _, _, k4⟩ := chk_ok h0
  refine alike_ends (given_alike c l is l hi (Alike.refl l)) he (given_caps c hc0 hc1 is l hi (fun i hi => ?_))
  have := arc_ok k4 hi
  unfold okArc at this
  omega
/-- the greatest value of a network (whatever flow shows it) -/
noncomputable def best (n : Nat) (l : List S36) (s t : Nat) : Int := by
  classical
  exact if h : ∃ al, ∃ sd, Best n l s t al sd then netAt (s : Int) l h.choose else 0
theorem best_eq {n : Nat} {l : List S36} {s t : Nat} {al : List Int} {sd : List Bool} (he : endsOf (n : Int) l (s : Int) (t : Int) = 0) (h : Best n l s t al sd) : netAt (s : Int) l al = best n l s t := by
  have h' : ∃ al, ∃ sd, Best n l s t al sd := ⟨al, sd, h⟩
  unfold best
  rw [dif_pos h']
  exact best_same he h h'.choose_spec.choose_spec
theorem refMax_best {n : Nat} {l : List S36} {s t : Nat} (he : endsOf (n : Int) l (s : Int) (t : Int) = 0) : ∃ al sd, Ev (fun k => codewrightref51_Max.f k (n : Int) l (s : Int) (t : Int)) (best n l s t, al, sd) := by
  obtain ⟨al, sd, h1, h2⟩ := refmax_ok he
  rw [best_eq he h2] at h1
  exact ⟨al, sd, h1⟩
theorem enough_ok {n : Nat} {l : List S36} {s t : Nat} {need c : Int} {is : List Int} (he : endsOf (n : Int) l (s : Int) (t : Int) = 0) (hi : ∀ x ∈ is, 0 ≤ x ∧ x < (l.length : Int)) (hil : is.length < 4611686018427387904) (hc0 : 0 ≤ c) (hc1 : c ≤ 1099511627776) :
    Ev (fun k => lsEnough k (n : Int) l (s : Int) (t : Int) need is c) (decide (best n (givenTo c is l) s t ≥ need)) := by
  obtain ⟨h0, _⟩ := endsOf_ok he
  obtain ⟨_, _, k3, _⟩ := chk_ok h0
  have he' := given_ends he hc0 hc1 (is := is) (fun x hx => (hi x hx).1)
  obtain ⟨al, sd, h1, h2⟩ := greatest_ok he'
  unfold lsEnough
  simp only [if_pos (show l.length * 24 ≤ 140737488355328 ∧ is.length < 4611686018427387904 from ⟨by omega, hil⟩), lsPut_given c is l hi, Option.bind_some]
  refine Ev.bind h1 ?_
  rw [best_eq he' h2]
  exact Ev.same (fun _ => rfl)
/-- the search, its predicate evaluated by rounds -/
theorem srch_ok (P : Nat → Int → Option Bool) (E : Int → Bool) (N : Int) (hN : N ≤ 1099511627776) (hP : ∀ x, 0 ≤ x → x ≤ N → Ev (fun k => P k x) (E x)) (d : Nat) : ∀ i j : Int, 0 ≤ i → i ≤ j → j ≤ N → j - i ≤ (d : Int) → (i = 0 ∨ E (i - 1) = false) → (j = N ∨ E j = true) →
    ∃ c, (∃ K, ∀ k k', K ≤ k → K ≤ k' → srchLoop (P k) k' i j = some c) ∧ 0 ≤ c ∧ c ≤ N ∧ (c = 0 ∨ E (c - 1) = false) ∧ (c = N ∨ E c = true) := by
  induction d with
  | zero =>
    intro i j h0 h1 h2 h3 h4 h5
    obtain rfl : i = j := by omega
    refine ⟨i, ⟨1, fun k k' _ hk => ?_⟩, h0, h2, h4, h5⟩
    obtain ⟨q, rfl⟩ : ∃ q, k' = q + 1 := ⟨k' - 1, by omega⟩
    rw [srchLoop, if_pos ⟨by omega, by omega, by omega, by omega⟩, if_neg (by omega)]
  | succ d ih =>
    intro i j h0 h1 h2 h3 h4 h5
    by_cases hlt : i < j
    · obtain ⟨K1, hK1⟩ := hP ((i + j) / 2) (by omega) (by omega)
      cases hE : E ((i + j) / 2) with
      | true =>
        obtain ⟨c, ⟨K, hK⟩, r⟩ := ih i ((i + j) / 2) h0 (by omega) (by omega) (by omega) h4 (.inr hE)
        refine ⟨c, ⟨K + K1 + 1, fun k k' hk hk' => ?_⟩, r⟩
        obtain ⟨q, rfl⟩ : ∃ q, k' = q + 1 := ⟨k' - 1, by omega⟩
        rw [srchLoop, if_pos ⟨by omega, by omega, by omega, by omega⟩, if_pos hlt]
        have := hK1 k (by omega)
        simp only at this
        rw [this, hE, Option.bind_some, if_pos rfl]
        exact hK k q (by omega) (by omega)
      | false =>
        obtain ⟨c, ⟨K, hK⟩, r⟩ := ih ((i + j) / 2 + 1) j (by omega) (by omega) h2 (by omega) (.inr (by rw [show (i + j) / 2 + 1 - 1 = (i + j) / 2 by omega]; exact hE)) h5
        refine ⟨c, ⟨K + K1 + 1, fun k k' hk hk' => ?_⟩, r⟩
        obtain ⟨q, rfl⟩ : ∃ q, k' = q + 1 := ⟨k' - 1, by omega⟩
        rw [srchLoop, if_pos ⟨by omega, by omega, by omega, by omega⟩, if_pos hlt]
        have := hK1 k (by omega)
        simp only at this
        rw [this, hE, Option.bind_some, if_neg (by decide)]
        exact hK k q (by omega) (by omega)
    · exact ih i j h0 h1 h2 (by omega) h4 h5
/-- the error of Least's arguments -/
def freeAns (v : Int) (l : List S36) (s t need : Int) (free : List Int) : Int := if endsOf v l s t = 0 then (if need < 0 then 6 else if lsScan (l.length : Int) free free.length 0 = true then 0 else 5) else endsOf v l s t
theorem free_l0 (v : Int) (l : List S36) (free : List Int) (hf : free.length < 4611686018427387904) (d : Nat) : ∀ i : Nat, i + d = free.length →
    Ev (fun k => codewrightref51_Free.l0 k free (i : Int) v l) (if lsScan (l.length : Int) free d i = true then 0 else 5) := by
  induction d with
  | zero =>
    intro i hi
    refine Ev.step (fun _ => codewrightref51_Free.l0.eq_2 ..) ?_
    simp only [if_neg (show ¬ ((i : Int) < (free.length : Int)) by omega)]
    exact Ev.same (fun k => by rw [lsScan, if_pos rfl])
  | succ d ih =>
    intro i hi
    refine Ev.step (fun _ => codewrightref51_Free.l0.eq_2 ..) ?_
    simp only [if_pos (show ((i : Int) < (free.length : Int)) by omega), if_pos (show (0 : Int) ≤ (i : Int) by omega), wr1 (show i < 4611686018427387904 by omega)]
    have ih' := ih (i + 1) (by omega)
    by_cases c1 : rd free (i : Int) < 0
    · simp only [if_pos c1, lsScan_bad (L := (l.length : Int)) (d := d) (.inl c1)]; exact Ev.same (fun _ => rfl)
    by_cases c2 : rd free (i : Int) ≥ (l.length : Int)
    · simp only [if_neg c1, if_pos c2, lsScan_bad (L := (l.length : Int)) (d := d) (.inr (.inl c2))]; exact Ev.same (fun _ => rfl)
    by_cases c3 : 0 < i
    · have e : wrap64 ((i : Int) - 1) = (i : Int) - 1 := wr0 (by omega) (by omega)
      simp only [if_neg c1, if_neg c2, if_pos (show (i : Int) > 0 by omega), e, if_pos (show 0 ≤ (i : Int) - 1 by omega), if_pos (show (i : Int) - 1 < (free.length : Int) by omega)]
      by_cases c4 : rd free (i : Int) ≤ rd free ((i : Int) - 1)
      · simp only [if_pos c4, lsScan_bad (L := (l.length : Int)) (d := d) (.inr (.inr ⟨c3, c4⟩))]; exact Ev.same (fun _ => rfl)
      · simp only [if_neg c4]
        rw [lsScan_ok (fun q => by rcases q with q | q | q; exact c1 q; exact c2 q; exact c4 q.2)]
        exact ih'
    · simp only [if_neg c1, if_neg c2, if_neg (show ¬ (i : Int) > 0 by omega)]
      rw [lsScan_ok (fun q => by rcases q with q | q | q; exact c1 q; exact c2 q; exact c3 q.1)]
      exact ih'
theorem Free_ev (v : Int) (l : List S36) (s t need : Int) (free : List Int) (hf : free.length < 4611686018427387904) : Ev (fun k => codewrightref51_Free.f k v l s t need free) (freeAns v l s t need free) := by
  unfold codewrightref51_Free.f freeAns
  refine Ev.bind (ends_ref_ev v l s t) ?_
  by_cases c : endsOf v l s t = 0
  · simp only [if_pos c]
    by_cases c2 : need < 0
    · simp only [if_pos c2]; exact Ev.same (fun _ => rfl)
    · simp only [if_neg c2]; exact free_l0 v l free hf free.length 0 (by omega)
  · simp only [if_neg c]; exact Ev.same (fun _ => rfl)
theorem scan_range {L : Int} {free : List Int} (d : Nat) : ∀ j, j + d = free.length → lsScan L free d j = true → ∀ i, j ≤ i → i < free.length → 0 ≤ free.getD i 0 ∧ free.getD i 0 < L := by
  induction d with
  | zero => intro j hj _ i h1 h2; omega
  | succ d ih =>
    intro j hj h i h1 h2
    by_cases c : rd free (j : Int) < 0 ∨ rd free (j : Int) ≥ L ∨ (0 < j ∧ rd free (j : Int) ≤ rd free ((j : Int) - 1))
    · rw [lsScan_bad c] at h; cases h
    · rw [lsScan_ok c] at h
      by_cases e : i = j
      · subst e
        rw [rd_nat] at c
        constructor
        · refine Int.not_lt.1 (fun q => c (.inl q))
        · refine Int.not_le.1 (fun q => c (.inr (.inl q)))
      · exact ih (j + 1) (by omega) h i (by omega) h2
theorem scan_mem {L : Int} {free : List Int} (h : lsScan L free free.length 0 = true) : ∀ x ∈ free, 0 ≤ x ∧ x < L := by
  intro x hx
  obtain ⟨i, hi, rfl⟩ := List.getElem_of_mem hx
  have := scan_range free.length 0 (by omega) h i (by omega) hi
  simpa [List.getD, hi] using this
theorem Least_no {v : Int} {l : List S36} {s t need : Int} {free : List Int} (h : freeAns v l s t need free ≠ 0) : Ev (fun k => flow_Least.f k v l s t need free) (0, freeAns v l s t need free) := by
  unfold flow_Least.f
  refine Ev.bind (ends_ev v l s t) ?_
  unfold freeAns at h ⊢
  by_cases c : endsOf v l s t = 0
  · simp only [if_pos c] at h ⊢
    by_cases c2 : need < 0
    · simp only [if_pos c2]; exact Ev.same (fun _ => rfl)
    · simp only [if_neg c2] at h ⊢
      by_cases c3 : lsScan (l.length : Int) free free.length 0 = true
      · rw [if_pos c3] at h; exact absurd rfl h
      · simp only [if_neg c3]; exact Ev.same (fun _ => rfl)
  · simp only [if_neg c]; exact Ev.same (fun _ => rfl)
theorem freeAns_ok {v : Int} {l : List S36} {s t need : Int} {free : List Int} (h : freeAns v l s t need free = 0) : endsOf v l s t = 0 ∧ ¬ need < 0 ∧ lsScan (l.length : Int) free free.length 0 = true := by
  unfold freeAns at h
  by_cases c : endsOf v l s t = 0
  · rw [if_pos c] at h
    by_cases c2 : need < 0
    · rw [if_pos c2] at h; cases h
    · rw [if_neg c2] at h
      by_cases c3 : lsScan (l.length : Int) free free.length 0 = true
      · exact ⟨c, c2, c3⟩
      · rw [if_neg c3] at h; cases h
  · rw [if_neg c] at h; exact absurd h c
theorem Least_ok {n : Nat} {l : List S36} {s t : Nat} {need : Int} {free : List Int} (hf : free.length < 4611686018427387904) (h : freeAns (n : Int) l (s : Int) (t : Int) need free = 0) :
    (best n (givenTo 1099511627776 free l) s t < need ∧ Ev (fun k => flow_Least.f k (n : Int) l (s : Int) (t : Int) need free) (0, 11)) ∨
    (¬ best n (givenTo 1099511627776 free l) s t < need ∧ ∃ c, Ev (fun k => flow_Least.f k (n : Int) l (s : Int) (t : Int) need free) (c, 0) ∧ 0 ≤ c ∧ c ≤ 1099511627776 ∧ ¬ best n (givenTo c free l) s t < need ∧ (c = 0 ∨ best n (givenTo (c - 1) free l) s t < need)) := by
  obtain ⟨he, hn, hs⟩ := freeAns_ok h
  have hi := scan_mem hs
  have hE := fun c (h0 : (0 : Int) ≤ c) (h1 : c ≤ 1099511627776) => enough_ok (need := need) he hi hf h0 h1
  by_cases c : best n (givenTo 1099511627776 free l) s t < need
  · refine .inl ⟨c, ?_⟩
    unfold flow_Least.f
    refine Ev.bind (ends_ev _ l _ _) ?_
    rw [he]
    simp only [if_true, if_neg hn, if_pos hs]
    have h1 := hE 1099511627776 (by decide) (by decide)
    rw [decide_eq_false (by omega)] at h1
    refine Ev.bind h1 ?_
    exact Ev.same (fun _ => by rw [if_neg (by decide)])
  · refine .inr ⟨c, ?_⟩
    obtain ⟨r, ⟨K, hK⟩, r0, r1, r2, r3⟩ := srch_ok (fun k x => lsEnough k (n : Int) l (s : Int) (t : Int) need free x) (fun x => decide (best n (givenTo x free l) s t ≥ need)) 1099511627776 (by decide) hE 1099511627776 0 1099511627776 (by decide) (by decide) (by decide) (by decide) (.inl rfl) (.inl rfl)
    refine ⟨r, ?_, r0, r1, ?_, ?_⟩
    · unfold flow_Least.f
      refine Ev.bind (ends_ev _ l _ _) ?_
      rw [he]
      simp only [if_true, if_neg hn, if_pos hs]
      have h1 := hE 1099511627776 (by decide) (by decide)
      rw [decide_eq_true (by omega)] at h1
      refine Ev.bind h1 ?_
      simp only [if_true]
      refine ⟨K, fun k hk => ?_⟩
      have := hK k k hk hk
      show (srchLoop (fun x => lsEnough k (n : Int) l (s : Int) (t : Int) need free x) k 0 1099511627776).bind _ = _
      rw [this]; rfl
    · rcases r3 with rfl | r3
      · exact c
      · have := of_decide_eq_true r3; omega
    · rcases r2 with r2 | r2
      · exact .inl r2
      · have := of_decide_eq_false r2; exact .inr (by omega)
theorem FlowLeast_pure : FlowLeast_Pure := by
  intro v l s t need free _ _ _ _ _ hfree
  have hf : free.length < 4611686018427387904 := by have := hfree.2; omega
  refine Ev.rounds (g := fun k => codewrightlaw51_FlowLeast.f k v l s t need free) ?_
  unfold codewrightlaw51_FlowLeast.f
  obtain ⟨b, hb, _, _⟩ := few_ev v l
  refine Ev.bind hb ?_
  cases b with
  | false => simp only [Bool.false_eq_true, if_false]; exact Ev.bind alive_ev (Ev.same (fun _ => rfl))
  | true =>
    simp only [if_true]
    by_cases hx : freeAns v l s t need free = 0
    · obtain ⟨he, hn, hs⟩ := freeAns_ok hx
      obtain ⟨n, rfl⟩ := endsOf_nat he
      obtain ⟨hc, hs0, hs1, ht0, ht1, hst⟩ := endsOf_ok he
      obtain ⟨S, rfl⟩ : ∃ S : Nat, s = (S : Int) := ⟨s.toNat, by omega⟩
      obtain ⟨T, rfl⟩ : ∃ T : Nat, t = (T : Int) := ⟨t.toNat, by omega⟩
      obtain ⟨k1, k2, k3, k4⟩ := chk_ok hc
      have hi := scan_mem hs
      have hG := fun c => Given_ev (n : Int) c l free k3 hf hi
      have hM := fun c (h0 : (0 : Int) ≤ c) (h1 : c ≤ 1099511627776) => refMax_best (given_ends he h0 h1 (is := free) (fun x hx => (hi x hx).1))
      rcases Least_ok hf hx with ⟨q, h1⟩ | ⟨q, c, h1, h2, h3, h4, h5⟩
      · refine Ev.bind h1 ?_
        refine Ev.bind (Free_ev _ l _ _ need free hf) ?_
        rw [hx]
        simp only [if_true]
        refine Ev.bind alive_ev ?_
        simp only [if_true]
        refine Ev.bind (hG 1099511627776) ?_
        obtain ⟨al, sd, h2⟩ := hM 1099511627776 (by decide) (by decide)
        refine Ev.bind h2 ?_
        simp only [if_pos q, if_true]
        exact Ev.same (fun _ => rfl)
      · refine Ev.bind h1 ?_
        refine Ev.bind (Free_ev _ l _ _ need free hf) ?_
        rw [hx]
        simp only [if_true]
        refine Ev.bind alive_ev ?_
        simp only [if_true]
        refine Ev.bind (hG 1099511627776) ?_
        obtain ⟨al, sd, h6⟩ := hM 1099511627776 (by decide) (by decide)
        refine Ev.bind h6 ?_
        simp only [if_neg q, if_neg (show ¬ c < 0 by omega), decide_eq_false (show ¬ c > 1099511627776 by omega)]
        refine Ev.step (fun _ => codewrightlaw51_FlowLeast.j0.eq_2 ..) ?_
        simp only [Bool.false_eq_true, if_false]
        refine Ev.bind (hG c) ?_
        obtain ⟨al2, sd2, h7⟩ := hM c h2 h3
        refine Ev.bind h7 ?_
        simp only [if_neg h4]
        by_cases c0 : c = 0
        · simp only [if_pos c0]; exact Ev.same (fun _ => rfl)
        · simp only [if_neg c0]
          rw [wr0 (by omega) (by omega)]
          refine Ev.bind (hG (c - 1)) ?_
          obtain ⟨al3, sd3, h8⟩ := hM (c - 1) (by omega) (by omega)
          refine Ev.bind h8 ?_
          rcases h5 with h5 | h5
          · exact absurd h5 c0
          · simp only [decide_eq_true h5]; exact Ev.same (fun _ => rfl)
    · refine Ev.bind (Least_no hx) ?_
      refine Ev.bind (Free_ev v l s t need free hf) ?_
      simp only [if_neg hx, if_true]
      exact Ev.bind alive_ev (Ev.same (fun _ => rfl))
end Go.Proofs.Ytidomjhihfoabaa.PF
