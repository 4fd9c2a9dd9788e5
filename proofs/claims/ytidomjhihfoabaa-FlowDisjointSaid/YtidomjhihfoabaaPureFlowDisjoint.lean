/- The plain part of the law FlowDisjoint, over numbers and lists alone: what its statement needs. -/
import Derived.Test.YtidomjhihfoabaaHIdx
import Derived.Test.YtidomjhihfoabaaHIsRoute
import Derived.Test.YtidomjhihfoabaaHLawDisj
import Derived.Test.YtidomjhihfoabaaHLr
import Derived.Test.YtidomjhihfoabaaHNext
import Derived.Test.YtidomjhihfoabaaHRoutes
import Derived.Test.YtidomjhihfoabaaHSG
import Derived.Test.YtidomjhihfoabaaPFx0
import Derived.Test.YtidomjhihfoabaaPFx14
import Derived.Test.YtidomjhihfoabaaPFx15
import Derived.Test.YtidomjhihfoabaaPFx16
import Derived.Test.YtidomjhihfoabaaPFx18
import Derived.Test.YtidomjhihfoabaaPFx21
import Derived.Test.YtidomjhihfoabaaPFx24
import Derived.Test.YtidomjhihfoabaaPFx26
import Derived.Test.YtidomjhihfoabaaPFx27
import Derived.Test.YtidomjhihfoabaaPFx34
import Derived.Test.YtidomjhihfoabaaPFx37
import Derived.Test.YtidomjhihfoabaaPFx38
import Derived.Test.YtidomjhihfoabaaPFx39
import Derived.Test.YtidomjhihfoabaaStFlowDisjoint
namespace Go.Proofs.Ytidomjhihfoabaa.PF
open Go.RowKit Go.Proofs.YtidomjhihfoabaaW.PrintWords Go.Proofs.YtidomjhihfoabaaW.PrintLast Go.Proofs.Ytidomjhihfoabaa.Lv
set_option linter.unusedVariables false
set_option linter.unusedSimpArgs false

theorem Ev.same {α : Type} {g : Nat → Option α} {r : α} (h : ∀ k, g k = some r) : Ev g r := ⟨0, fun k _ => h k⟩
theorem wr1 {i : Nat} (h : i < 4611686018427387904) : wrap64 ((i : Int) + 1) = ((i + 1 : Nat) : Int) := by
  unfold wrap64; omega
theorem wr0 {x : Int} (h0 : -9223372036854775808 ≤ x) (h1 : x ≤ 9223372036854775807) : wrap64 x = x := by
  unfold wrap64; omega
theorem rd_nat (l : List Int) (i : Nat) : rd l (i : Int) = l.getD i 0 := by simp [rd]
theorem rdOf_nat {α : Type} (d : α) (l : List α) (i : Nat) : rdOf d l (i : Int) = l.getD i d := by simp [rdOf]
theorem rd36_nat (l : List S36) (i : Nat) : rd_T36 l (i : Int) = l.getD i z36 := by simp [rd_T36]
theorem getD_drop {α : Type} (d : α) (l : List α) (i : Nat) (h : i < l.length) : l.drop i = l.getD i d :: l.drop (i + 1) := by
  rw [List.drop_eq_getElem_cons h]; simp [List.getD, h]
/-- an arc lies in a network of v vertices -/
def okArc (v : Int) (a : S36) : Prop := 0 ≤ a.f0 ∧ a.f0 < v ∧ 0 ≤ a.f1 ∧ a.f1 < v ∧ 0 ≤ a.f2 ∧ a.f2 ≤ 1099511627776
instance (v : Int) (a : S36) : Decidable (okArc v a) := by unfold okArc; infer_instance
def okArcs (v : Int) (l : List S36) : Prop := ∀ a ∈ l, okArc v a
instance (v : Int) (l : List S36) : Decidable (okArcs v l) := by unfold okArcs; infer_instance
/-- the first error of a network -/
def chk (v : Int) (l : List S36) : Int := if v < 1 ∨ v > 256 then 6 else if l.length > 1024 then 8 else if okArcs v l then 0 else 6
theorem okArcs_cons {v : Int} {a : S36} {l : List S36} : okArcs v (a :: l) ↔ okArc v a ∧ okArcs v l := by simp [okArcs]
theorem chk_l0 (v : Int) (l : List S36) (hl : l.length ≤ 1024) (d : Nat) : ∀ i : Nat, i + d = l.length →
    Ev (fun k => flow_CheckNetwork.l0 k l (l.length : Int) (i : Int) v l) (if okArcs v (l.drop i) then 0 else 6) := by
  induction d with
  | zero =>
    intro i hi
    refine Ev.step (fun _ => flow_CheckNetwork.l0.eq_2 ..) ?_
    rw [List.drop_of_length_le (by omega)]
    simp only [if_neg (show ¬ ((i : Int) < (l.length : Int)) by omega)]
    exact Ev.same (fun k => by simp [okArcs])
  | succ d ih =>
    intro i hi
    refine Ev.step (fun _ => flow_CheckNetwork.l0.eq_2 ..) ?_
    rw [getD_drop z36 l i (by omega), rd36_nat]
    simp only [if_pos (show ((i : Int) < (l.length : Int)) by omega), if_pos (show (0 : Int) ≤ (i : Int) by omega), wr1 (show i < 4611686018427387904 by omega)]
    have ih' := ih (i + 1) (by omega)
    generalize hx : l.getD i z36 = x
    simp only [okArcs_cons]
    by_cases h1 : x.f0 < 0
    · simp only [if_pos h1]; exact Ev.same (fun k => by rw [if_neg]; unfold okArc; omega)
    by_cases h2 : x.f0 ≥ v
    · simp only [if_neg h1, if_pos h2]; exact Ev.same (fun k => by rw [if_neg]; unfold okArc; omega)
    by_cases h3 : x.f1 < 0
    · simp only [if_neg h1, if_neg h2, if_pos h3]; exact Ev.same (fun k => by rw [if_neg]; unfold okArc; omega)
    by_cases h4 : x.f1 ≥ v
    · simp only [if_neg h1, if_neg h2, if_neg h3, if_pos h4]; exact Ev.same (fun k => by rw [if_neg]; unfold okArc; omega)
    by_cases h5 : x.f2 < 0
    · simp only [if_neg h1, if_neg h2, if_neg h3, if_neg h4, if_pos h5]; exact Ev.same (fun k => by rw [if_neg]; unfold okArc; omega)
    by_cases h6 : x.f2 > 1099511627776
    · simp only [if_neg h1, if_neg h2, if_neg h3, if_neg h4, if_neg h5, if_pos h6]; exact Ev.same (fun k => by rw [if_neg]; unfold okArc; omega)
    simp only [if_neg h1, if_neg h2, if_neg h3, if_neg h4, if_neg h5, if_neg h6]
    have hk : okArc v x := by unfold okArc; omega
    simp only [hk, true_and]
    exact ih'
theorem chk_ref_l0 (v : Int) (l : List S36) (hl : l.length ≤ 1024) (d : Nat) : ∀ i : Nat, i + d = l.length →
    Ev (fun k => codewrightref51_Check.l0 k (i : Int) v l) (if okArcs v (l.drop i) then 0 else 6) := by
  induction d with
  | zero =>
    intro i hi
    refine Ev.step (fun _ => codewrightref51_Check.l0.eq_2 ..) ?_
    rw [List.drop_of_length_le (by omega)]
    simp only [if_neg (show ¬ ((i : Int) < (l.length : Int)) by omega)]
    exact Ev.same (fun k => by simp [okArcs])
  | succ d ih =>
    intro i hi
    refine Ev.step (fun _ => codewrightref51_Check.l0.eq_2 ..) ?_
    rw [getD_drop z36 l i (by omega), rd36_nat]
    simp only [if_pos (show ((i : Int) < (l.length : Int)) by omega), if_pos (show (0 : Int) ≤ (i : Int) by omega), wr1 (show i < 4611686018427387904 by omega)]
    have ih' := ih (i + 1) (by omega)
    generalize hx : l.getD i z36 = x
    simp only [okArcs_cons]
    by_cases h1 : x.f0 < 0
    · simp only [if_pos h1]; exact Ev.same (fun k => by rw [if_neg]; unfold okArc; omega)
    by_cases h2 : x.f0 ≥ v
    · simp only [if_neg h1, if_pos h2]; exact Ev.same (fun k => by rw [if_neg]; unfold okArc; omega)
    by_cases h3 : x.f1 < 0
    · simp only [if_neg h1, if_neg h2, if_pos h3]; exact Ev.same (fun k => by rw [if_neg]; unfold okArc; omega)
    by_cases h4 : x.f1 ≥ v
    · simp only [if_neg h1, if_neg h2, if_neg h3, if_pos h4]; exact Ev.same (fun k => by rw [if_neg]; unfold okArc; omega)
    by_cases h5 : x.f2 < 0
    · simp only [if_neg h1, if_neg h2, if_neg h3, if_neg h4, if_pos h5]; exact Ev.same (fun k => by rw [if_neg]; unfold okArc; omega)
    by_cases h6 : x.f2 > 1099511627776
    · simp only [if_neg h1, if_neg h2, if_neg h3, if_neg h4, if_neg h5, if_pos h6]; exact Ev.same (fun k => by rw [if_neg]; unfold okArc; omega)
    simp only [if_neg h1, if_neg h2, if_neg h3, if_neg h4, if_neg h5, if_neg h6]
    have hk : okArc v x := by unfold okArc; omega
    simp only [hk, true_and]
    exact ih'
theorem check_ev (v : Int) (l : List S36) : Ev (fun k => flow_CheckNetwork.f k v l) (chk v l) := by
  unfold chk flow_CheckNetwork.f
  have key : ∀ b : Bool, (b = true ↔ (v < 1 ∨ v > 256)) → Ev (fun k => flow_CheckNetwork.j0 k b v l) (if v < 1 ∨ v > 256 then 6 else if l.length > 1024 then 8 else if okArcs v l then 0 else 6) := by
    intro b hb
    refine Ev.step (fun _ => flow_CheckNetwork.j0.eq_2 ..) ?_
    by_cases h : v < 1 ∨ v > 256
    · simp only [if_pos h, if_pos (hb.2 h)]; exact Ev.same (fun _ => rfl)
    · simp only [if_neg h, if_neg (fun e => h (hb.1 e))]
      by_cases h2 : l.length > 1024
      · simp only [if_pos h2, if_pos (show (l.length : Int) > 1024 by omega)]; exact Ev.same (fun _ => rfl)
      · simp only [if_neg h2, if_neg (show ¬ (l.length : Int) > 1024 by omega)]
        have := chk_l0 v l (by omega) l.length 0 (by omega)
        simpa using this
  by_cases h : v < 1
  · simp only [if_pos h]; exact key true (by simp [h]) |> fun x => by simpa [h] using x
  · simp only [if_neg h]; exact key _ (by simp; omega)
theorem check_ref_ev (v : Int) (l : List S36) : Ev (fun k => codewrightref51_Check.f k v l) (chk v l) := by
  unfold chk codewrightref51_Check.f
  have key : ∀ b : Bool, (b = true ↔ (v < 1 ∨ v > 256)) → Ev (fun k => codewrightref51_Check.j0 k b v l) (if v < 1 ∨ v > 256 then 6 else if l.length > 1024 then 8 else if okArcs v l then 0 else 6) := by
    intro b hb
    refine Ev.step (fun _ => codewrightref51_Check.j0.eq_2 ..) ?_
    by_cases h : v < 1 ∨ v > 256
    · simp only [if_pos h, if_pos (hb.2 h)]; exact Ev.same (fun _ => rfl)
    · simp only [if_neg h, if_neg (fun e => h (hb.1 e))]
      by_cases h2 : l.length > 1024
      · simp only [if_pos h2, if_pos (show (l.length : Int) > 1024 by omega)]; exact Ev.same (fun _ => rfl)
      · simp only [if_neg h2, if_neg (show ¬ (l.length : Int) > 1024 by omega)]
        have := chk_ref_l0 v l (by omega) l.length 0 (by omega)
        simpa using this
  by_cases h : v < 1
  · simp only [if_pos h]; exact key true (by simp [h]) |> fun x => by simpa [h] using x
  · simp only [if_neg h]; exact key _ (by simp; omega)
/-- what a network is told by its first error -/
theorem chk_ok {v : Int} {l : List S36} (h : chk v l = 0) : 1 ≤ v ∧ v ≤ 256 ∧ l.length ≤ 1024 ∧ okArcs v l := by
  unfold chk at h
  split at h
  · simp at h
  · split at h
    · simp at h
    · split at h
      · rename_i h1 h2 h3; exact ⟨by omega, by omega, by omega, h3⟩
      · simp at h

/-! ### cuts -/
/-- what an arc adds to the capacity of a cut -/
def cutOf (side : List Bool) (a : S36) : Int := if side.getD a.f0.toNat false = true ∧ side.getD a.f1.toNat false = false then a.f2 else 0
def cut (side : List Bool) (l : List S36) : Int := (l.map (cutOf side)).sum
theorem cut_cons (side : List Bool) (a : S36) (l : List S36) : cut side (a :: l) = cutOf side a + cut side l := by simp [cut]
theorem cutOf_le {v : Int} {side : List Bool} {a : S36} (h : okArc v a) : 0 ≤ cutOf side a ∧ cutOf side a ≤ 1099511627776 := by
  unfold okArc at h; unfold cutOf; split <;> omega
theorem cap_l0 (v : Int) (l : List S36) (side : List Bool) (hv : (side.length : Int) = v) (hl : l.length ≤ 1024) (hok : okArcs v l) (d : Nat) : ∀ (i : Nat) (s : Int), i + d = l.length →
    0 ≤ s → s ≤ 1099511627776 * i →
    Ev (fun k => flow_capacity.l0 k side s l (l.length : Int) (i : Int)) (s + cut side (l.drop i)) := by
  induction d with
  | zero =>
    intro i s hi hs0 hs1
    refine Ev.step (fun _ => flow_capacity.l0.eq_2 ..) ?_
    rw [List.drop_of_length_le (by omega)]
    simp only [if_neg (show ¬ ((i : Int) < (l.length : Int)) by omega)]
    exact Ev.same (fun k => by simp [cut])
  | succ d ih =>
    intro i s hi hs0 hs1
    refine Ev.step (fun _ => flow_capacity.l0.eq_2 ..) ?_
    rw [getD_drop z36 l i (by omega), rd36_nat, cut_cons]
    have hx : okArc v (l.getD i z36) := hok _ (by simp [List.getD, show i < l.length by omega])
    generalize l.getD i z36 = x at hx
    have hc := cutOf_le (side := side) hx
    obtain ⟨h1, h2, h3, h4, h5, h6⟩ := hx
    simp only [if_pos (show ((i : Int) < (l.length : Int)) by omega), if_pos (show (0 : Int) ≤ (i : Int) by omega), wr1 (show i < 4611686018427387904 by omega), if_pos h1, if_pos h3, if_pos (show x.f0 < (side.length : Int) by omega), if_pos (show x.f1 < (side.length : Int) by omega)]
    unfold rdOf
    unfold cutOf at hc ⊢
    by_cases c1 : side.getD x.f0.toNat false = true
    · by_cases c2 : side.getD x.f1.toNat false = true
      · simp only [if_pos c1, if_pos c2]
        have := ih (i + 1) s (by omega) hs0 (by omega)
        rw [if_neg (fun h => by rw [c2] at h; exact absurd h.2 (by decide))]
        simpa using this
      · simp only [if_pos c1, if_neg c2]
        have := ih (i + 1) (s + x.f2) (by omega) (by omega) (by omega)
        rw [if_pos ⟨c1, by simpa using c2⟩]
        rw [wr0 (by omega) (by omega)]
        simpa [Int.add_assoc] using this
    · simp only [if_neg c1]
      have := ih (i + 1) s (by omega) hs0 (by omega)
      rw [if_neg (fun h => c1 h.1)]
      simpa using this
theorem cap_ev {v : Int} {l : List S36} {side : List Bool} (h : chk v l = 0) (hv : (side.length : Int) = v) : Ev (fun k => flow_capacity.f k v l side) (cut side l) := by
  obtain ⟨h1, h2, h3, h4⟩ := chk_ok h
  have := cap_l0 v l side hv h3 h4 l.length 0 0 (by omega) (by omega) (by omega)
  simpa [flow_capacity.f] using this
/-- what Cut answers -/
def cutAns (v : Int) (l : List S36) (side : List Bool) : Int × Int := if chk v l = 0 then (if (side.length : Int) = v then (cut side l, 0) else (0, 3)) else (0, chk v l)
theorem Cut_ev (v : Int) (l : List S36) (side : List Bool) : Ev (fun k => flow_Cut.f k v l side) (cutAns v l side) := by
  unfold cutAns flow_Cut.f
  refine Ev.bind (check_ev v l) ?_
  by_cases h : chk v l = 0
  · simp only [if_pos h]
    by_cases h2 : (side.length : Int) = v
    · simp only [if_pos h2]
      exact Ev.bind (cap_ev h h2) (Ev.same (fun _ => rfl))
    · simp only [if_neg h2]; exact Ev.same (fun _ => rfl)
  · simp only [if_neg h]; exact Ev.same (fun _ => rfl)
theorem alive_ev : Ev (fun k => codewrightlaw51_alive.f k) true := by
  unfold codewrightlaw51_alive.f
  refine Ev.bind (Cut_ev _ _ _) ?_
  exact Ev.same (fun _ => by decide)
/-- a statement's truth -/
noncomputable def B (p : Prop) : Bool := @decide p (Classical.propDecidable p)
theorem B_true {p : Prop} (h : p) : B p = true := by unfold B; simp [h]
theorem B_false {p : Prop} (h : ¬ p) : B p = false := by unfold B; simp [h]
theorem B_congr {p q : Prop} (h : p ↔ q) : B p = B q := by rw [propext h]
/-- what an arc with x on it adds to what flows out of v -/
def flowAt (v : Int) (a : S36) (x : Int) : Int := (if a.f0 = v then x else 0) - (if a.f1 = v then x else 0)
/-- what flows out of v less what flows into it, over the first arcs -/
def netTo (v : Int) (l : List S36) (al : List Int) : Nat → Int
  | 0 => 0
  | i + 1 => netTo v l al i + flowAt v (l.getD i z36) (al.getD i 0)
def netAt (v : Int) (l : List S36) (al : List Int) : Int := netTo v l al l.length
theorem netTo_bound (v : Int) (l : List S36) (al : List Int) (i : Nat) (h : ∀ j, j < i → 0 ≤ al.getD j 0 ∧ al.getD j 0 ≤ 1099511627776) : -(1099511627776 * (i : Int)) ≤ netTo v l al i ∧ netTo v l al i ≤ 1099511627776 * (i : Int) := by
  induction i with
  | zero => simp [netTo]
  | succ i ih =>
    have h1 := ih (fun j hj => h j (by omega))
    have h2 := h i (by omega)
    simp only [netTo, flowAt]
    split <;> split <;> omega
def netList (n : Nat) (l : List S36) (al : List Int) (i : Nat) : List Int := (List.range n).map (fun u : Nat => netTo (u : Int) l al i)
theorem netList_length (n : Nat) (l : List S36) (al : List Int) (i : Nat) : (netList n l al i).length = n := by simp [netList]
theorem netList_get {n : Nat} {l : List S36} {al : List Int} {i j : Nat} (h : j < n) : (netList n l al i).getD j 0 = netTo (j : Int) l al i := by
  simp [netList, List.getD, h]
theorem netList_zero (n : Nat) (l : List S36) (al : List Int) : List.replicate n (0 : Int) = netList n l al 0 := by
  apply List.ext_getElem
  · simp [netList]
  · intro j h1 h2; simp [netList, netTo]
theorem net_step {n i a b : Nat} {l : List S36} {al : List Int} (ha : a < n) (hb : b < n) (hA : (l.getD i z36).f0 = (a : Int)) (hB : (l.getD i z36).f1 = (b : Int)) :
    ((netList n l al i).set a (netTo (a : Int) l al i + al.getD i 0)).set b (((netList n l al i).set a (netTo (a : Int) l al i + al.getD i 0)).getD b 0 - al.getD i 0) = netList n l al (i + 1) := by
  apply List.ext_getElem
  · simp [netList]
  · intro j h1 h2
    have hj : j < n := by simpa [netList] using h2
    simp only [netList, List.getElem_set, List.getElem_map, List.getElem_range, List.getD, netTo, flowAt] at *
    simp only [List.getElem?_set, List.getElem?_map, List.length_map, List.length_range, List.getElem?_range, ha, hb, if_true, hA, hB, Int.natCast_inj] at *
    by_cases e1 : b = j
    · subst e1
      by_cases e2 : a = b
      · subst e2; simp
      · simp [e2, hj]; omega
    · by_cases e2 : a = j
      · subst e2; simp [e1, hj]
      · simp [e1, e2, hj]
/-- each arc has from 0 to its capacity -/
def okAl (l : List S36) (al : List Int) : Prop := ∀ j, j < l.length → 0 ≤ al.getD j 0 ∧ al.getD j 0 ≤ (l.getD j z36).f2
theorem okAl_cap {v : Int} {l : List S36} {al : List Int} (h : okAl l al) (hok : okArcs v l) : ∀ j, j < l.length → 0 ≤ al.getD j 0 ∧ al.getD j 0 ≤ 1099511627776 := by
  intro j hj
  have h1 := h j hj
  have h2 : okArc v (l.getD j z36) := hok _ (by simp [List.getD, hj])
  unfold okArc at h2
  omega
/-- the reference's flows -/
def isFlow (n : Nat) (l : List S36) (s t : Int) (al : List Int) : Prop :=
  al.length = l.length ∧ okAl l al ∧ ∀ u : Nat, u < n → (u : Int) ≠ s → (u : Int) ≠ t → netAt (u : Int) l al = 0
/-- the reference's cuts -/
def isCut (n : Nat) (s t : Int) (side : List Bool) : Prop := side.length = n ∧ side.getD s.toNat false = true ∧ side.getD t.toNat false = false
/-- the error of a network with a source and a sink -/
def endsOf (v : Int) (l : List S36) (s t : Int) : Int := if chk v l = 0 then (if s < 0 ∨ s ≥ v ∨ t < 0 ∨ t ≥ v then 6 else if s = t then 10 else 0) else chk v l
theorem endsOf_ok {v : Int} {l : List S36} {s t : Int} (h : endsOf v l s t = 0) : chk v l = 0 ∧ 0 ≤ s ∧ s < v ∧ 0 ≤ t ∧ t < v ∧ s ≠ t := by
  unfold endsOf at h
  split at h
  · rename_i h1
    split at h
    · simp at h
    · split at h
      · simp at h
      · refine ⟨h1, ?_⟩; omega
  · exact absurd h (by assumption)
theorem ends_j0 (s t : Int) (b : Bool) : Ev (fun k => flow_ends.j0 k s t b) (if b = true then 6 else if s = t then 10 else 0) := by
  refine Ev.step (fun _ => flow_ends.j0.eq_2 ..) ?_
  refine Ev.same (fun k => ?_)
  split
  · rfl
  · split <;> rfl
theorem ends_ev (v : Int) (l : List S36) (s t : Int) : Ev (fun k => flow_ends.f k v l s t) (endsOf v l s t) := by
  unfold endsOf flow_ends.f
  refine Ev.bind (check_ev v l) ?_
  by_cases c : chk v l = 0
  · simp only [if_pos c]
    have j := ends_j0 s t
    by_cases c1 : s < 0
    · simp only [if_pos c1, if_pos (show s < 0 ∨ s ≥ v ∨ t < 0 ∨ t ≥ v by omega)]; simpa using j true
    by_cases c2 : s ≥ v
    · simp only [if_neg c1, if_pos c2, if_pos (show s < 0 ∨ s ≥ v ∨ t < 0 ∨ t ≥ v by omega)]; simpa using j true
    by_cases c3 : t < 0
    · simp only [if_neg c1, if_neg c2, if_pos c3, if_pos (show s < 0 ∨ s ≥ v ∨ t < 0 ∨ t ≥ v by omega)]; simpa using j true
    simp only [if_neg c1, if_neg c2, if_neg c3]
    by_cases c4 : t ≥ v
    · have := j (decide (t ≥ v))
      rw [if_pos (show s < 0 ∨ s ≥ v ∨ t < 0 ∨ t ≥ v by omega)]
      simpa [c4] using this
    · have := j (decide (t ≥ v))
      rw [if_neg (show ¬ (s < 0 ∨ s ≥ v ∨ t < 0 ∨ t ≥ v) by omega)]
      simpa [c4] using this
  · simp only [if_neg c]; exact Ev.same (fun _ => rfl)
theorem ends_ref_j0 (s t : Int) (b : Bool) : Ev (fun k => codewrightref51_Ends.j0 k s t b) (if b = true then 6 else if s = t then 10 else 0) := by
  refine Ev.step (fun _ => codewrightref51_Ends.j0.eq_2 ..) ?_
  refine Ev.same (fun k => ?_)
  split
  · rfl
  · split <;> rfl
theorem ends_ref_ev (v : Int) (l : List S36) (s t : Int) : Ev (fun k => codewrightref51_Ends.f k v l s t) (endsOf v l s t) := by
  unfold endsOf codewrightref51_Ends.f
  refine Ev.bind (check_ref_ev v l) ?_
  by_cases c : chk v l = 0
  · simp only [if_pos c]
    have j := ends_ref_j0 s t
    by_cases c1 : s < 0
    · simp only [if_pos c1, if_pos (show s < 0 ∨ s ≥ v ∨ t < 0 ∨ t ≥ v by omega)]; simpa using j true
    by_cases c2 : s ≥ v
    · simp only [if_neg c1, if_pos c2, if_pos (show s < 0 ∨ s ≥ v ∨ t < 0 ∨ t ≥ v by omega)]; simpa using j true
    by_cases c3 : t < 0
    · simp only [if_neg c1, if_neg c2, if_pos c3, if_pos (show s < 0 ∨ s ≥ v ∨ t < 0 ∨ t ≥ v by omega)]; simpa using j true
    simp only [if_neg c1, if_neg c2, if_neg c3]
    by_cases c4 : t ≥ v
    · have := j (decide (t ≥ v))
      rw [if_pos (show s < 0 ∨ s ≥ v ∨ t < 0 ∨ t ≥ v by omega)]
      simpa [c4] using this
    · have := j (decide (t ≥ v))
      rw [if_neg (show ¬ (s < 0 ∨ s ≥ v ∨ t < 0 ∨ t ≥ v) by omega)]
      simpa [c4] using this
  · simp only [if_neg c]; exact Ev.same (fun _ => rfl)
/-- the certified flows -/
def isCert (n : Nat) (l : List S36) (s t : Int) (val : Int) (al : List Int) (side : List Bool) : Prop :=
  isFlow n l s t al ∧ isCut n s t side ∧ netAt s l al = val ∧ cut side l = val
/-- what Check answers -/
noncomputable def checkAns (v : Int) (l : List S36) (s t val : Int) (al : List Int) (side : List Bool) : Int :=
  if endsOf v l s t = 0 then (if B (isCert v.toNat l s t val al side) = true then 0 else 13) else endsOf v l s t
theorem endsOf_nat {v : Int} {l : List S36} {s t : Int} (he : endsOf v l s t = 0) : ∃ n : Nat, v = (n : Int) := by
  obtain ⟨h, _⟩ := endsOf_ok he
  have := chk_ok h
  exact ⟨v.toNat, by omega⟩
theorem few_ev (v : Int) (l : List S36) : ∃ b, Ev (fun k => codewrightlaw51_few.f k v l) b ∧ (b = true → (v ≤ 40 ∧ l.length ≤ 120) ∨ chk v l ≠ 0) ∧ (b = false → chk v l = 0) := by
  unfold codewrightlaw51_few.f
  by_cases c1 : v ≤ 40
  · by_cases c2 : l.length ≤ 120
    · refine ⟨true, ?_, fun _ => Or.inl ⟨c1, c2⟩, fun h => by cases h⟩
      simp only [if_pos c1, if_pos (show (l.length : Int) ≤ 120 by omega)]; exact Ev.same (fun _ => rfl)
    · refine ⟨chk v l != 0, ?_, fun h => Or.inr (by simpa using h), fun h => by simpa using h⟩
      simp only [if_pos c1, if_neg (show ¬ (l.length : Int) ≤ 120 by omega)]
      exact Ev.bind (check_ref_ev v l) (Ev.same (fun _ => rfl))
  · refine ⟨chk v l != 0, ?_, fun h => Or.inr (by simpa using h), fun h => by simpa using h⟩
    simp only [if_neg c1]
    exact Ev.bind (check_ref_ev v l) (Ev.same (fun _ => rfl))
theorem net_l0 (n : Nat) (l : List S36) (al : List Int) (hn : n ≤ 256) (hl : l.length ≤ 1024) (hok : okArcs (n : Int) l) (hlen : al.length = l.length) (hal : ∀ j, j < l.length → 0 ≤ al.getD j 0 ∧ al.getD j 0 ≤ 1099511627776) (d : Nat) : ∀ i : Nat, i + d = l.length →
    Ev (fun k => flow_net.l0 k al (netList n l al i) l (l.length : Int) (i : Int)) (netList n l al l.length) := by
  induction d with
  | zero =>
    intro i hi
    refine Ev.step (fun _ => flow_net.l0.eq_2 ..) ?_
    simp only [if_neg (show ¬ ((i : Int) < (l.length : Int)) by omega)]
    exact Ev.same (fun k => by rw [show i = l.length by omega])
  | succ d ih =>
    intro i hi
    refine Ev.step (fun _ => flow_net.l0.eq_2 ..) ?_
    have hx : okArc (n : Int) (l.getD i z36) := hok _ (by simp [List.getD, show i < l.length by omega])
    obtain ⟨a, hA⟩ : ∃ a : Nat, (l.getD i z36).f0 = (a : Int) := ⟨(l.getD i z36).f0.toNat, by unfold okArc at hx; omega⟩
    obtain ⟨b, hB⟩ : ∃ b : Nat, (l.getD i z36).f1 = (b : Int) := ⟨(l.getD i z36).f1.toNat, by unfold okArc at hx; omega⟩
    have ha : a < n := by unfold okArc at hx; omega
    have hb : b < n := by unfold okArc at hx; omega
    have hs := net_step (al := al) ha hb hA hB
    have b1 := netTo_bound (a : Int) l al i (fun j hj => hal j (by omega))
    have b2 := netTo_bound (b : Int) l al (i + 1) (fun j hj => hal j (by omega))
    have b3 := hal i (by omega)
    rw [rd36_nat, rd_nat al]
    simp only [hA, hB, if_pos (show ((i : Int) < (l.length : Int)) by omega), if_pos (show (0 : Int) ≤ (i : Int) by omega), wr1 (show i < 4611686018427387904 by omega), Int.toNat_natCast, List.length_set, netList_length, if_pos (show (0 : Int) ≤ (a : Int) by omega), if_pos (show (0 : Int) ≤ (b : Int) by omega), if_pos (show (a : Int) < (n : Int) by omega), if_pos (show (b : Int) < (n : Int) by omega), if_pos (show (i : Int) < (al.length : Int) by omega), Option.bind_some, rd_nat, netList_get ha]
    rw [wr0 (x := netTo (a : Int) l al i + al.getD i 0) (by omega) (by omega)]
    have e1 : ((netList n l al i).set a (netTo (a : Int) l al i + al.getD i 0)).getD b 0 - al.getD i 0 = netTo (b : Int) l al (i + 1) := by
      have := congrArg (fun z => z.getD b 0) hs
      simp only [netList_get hb] at this
      rw [← this]
      simp [List.getD, netList, hb]
    rw [wr0 (x := ((netList n l al i).set a (netTo (a : Int) l al i + al.getD i 0)).getD b 0 - al.getD i 0) (by rw [e1]; omega) (by rw [e1]; omega), hs]
    exact ih (i + 1) (by omega)
theorem net_ev {n : Nat} {l : List S36} {al : List Int} (h : chk (n : Int) l = 0) (hlen : al.length = l.length) (hal : ∀ j, j < l.length → 0 ≤ al.getD j 0 ∧ al.getD j 0 ≤ 1099511627776) :
    Ev (fun k => flow_net.f k (n : Int) l al) (netList n l al l.length) := by
  obtain ⟨h1, h2, h3, h4⟩ := chk_ok h
  unfold flow_net.f
  simp only [if_pos (show (0 : Int) ≤ (n : Int) by omega), Int.toNat_natCast, if_pos (show n ≤ 35184372088832 by omega)]
  rw [netList_zero n l al]
  simpa using net_l0 n l al (by omega) h3 h4 hlen hal l.length 0 (by omega)
theorem cert_l1 (n : Nat) (l : List S36) (s t val : Int) (al : List Int) (side : List Bool) (h : chk (n : Int) l = 0) (hs0 : 0 ≤ s) (hs1 : s < n) (hst : s ≠ t) (hlen : al.length = l.length) (hside : isCut n s t side) (hal : okAl l al) (d : Nat) : ∀ i : Nat, i + d = n →
    (∀ u : Nat, u < i → ((u : Int) = s → netAt (u : Int) l al = val) ∧ ((u : Int) ≠ s → (u : Int) ≠ t → netAt (u : Int) l al = 0)) →
    Ev (fun k => flow_certified.l1 k s t (netList n l al l.length) (n : Int) (i : Int) (n : Int) l val al side) (B (isCert n l s t val al side)) := by
  obtain ⟨h1, h2, h3, h4⟩ := chk_ok h
  induction d with
  | zero =>
    intro i hi hu
    refine Ev.step (fun _ => flow_certified.l1.eq_2 ..) ?_
    simp only [if_neg (show ¬ ((i : Int) < (n : Int)) by omega)]
    refine Ev.bind (cap_ev h (by have := hside.1; omega)) (Ev.same (fun k => ?_))
    obtain ⟨S, hS⟩ : ∃ S : Nat, s = (S : Int) := ⟨s.toNat, by omega⟩
    have e : isCert n l s t val al side ↔ cut side l = val := by
      refine ⟨fun q => q.2.2.2, fun q => ⟨⟨hlen, hal, fun u hu1 hu2 hu3 => (hu u (by omega)).2 hu2 hu3⟩, hside, ?_, q⟩⟩
      subst hS
      exact (hu S (by omega)).1 rfl
    rw [B_congr e]
    by_cases q : cut side l = val
    · rw [B_true q]; simp [q]
    · rw [B_false q]; simp [q]
  | succ d ih =>
    intro i hi hu
    refine Ev.step (fun _ => flow_certified.l1.eq_2 ..) ?_
    simp only [if_pos (show ((i : Int) < (n : Int)) by omega), if_pos (show (0 : Int) ≤ (i : Int) by omega), wr1 (show i < 4611686018427387904 by omega), netList_length, rd_nat, netList_get (show i < n by omega)]
    have next : (((i : Int) = s → netAt (i : Int) l al = val) ∧ ((i : Int) ≠ s → (i : Int) ≠ t → netAt (i : Int) l al = 0)) → Ev (fun k => flow_certified.l1 k s t (netList n l al l.length) (n : Int) ((i + 1 : Nat) : Int) (n : Int) l val al side) (B (isCert n l s t val al side)) := by
      intro h
      refine ih (i + 1) (by omega) (fun u h1 => ?_)
      by_cases e : u = i
      · subst e; exact h
      · exact hu u (by omega)
    by_cases c1 : (i : Int) = s
    · simp only [if_pos c1]
      by_cases c2 : netTo (i : Int) l al l.length = val
      · simp only [if_pos c2]; rw [← c1]; rw [← c1] at next; exact next ⟨fun _ => c2, fun h => absurd rfl h⟩
      · simp only [if_neg c2]
        refine Ev.same (fun k => ?_)
        rw [B_false]
        intro q
        exact c2 (by rw [c1]; exact q.2.2.1)
    by_cases c2 : (i : Int) = t
    · simp only [if_neg c1, if_pos c2]; rw [← c2]; rw [← c2] at next; exact next ⟨fun h => absurd h c1, fun _ h => absurd rfl h⟩
    by_cases c3 : netTo (i : Int) l al l.length = 0
    · simp only [if_neg c1, if_neg c2, if_pos c3]; exact next ⟨fun h => absurd h c1, fun _ _ => c3⟩
    · simp only [if_neg c1, if_neg c2, if_neg c3]
      refine Ev.same (fun k => ?_)
      rw [B_false]
      intro h
      exact c3 (h.1.2.2 i (by omega) c1 c2)
theorem cert_l0 (n : Nat) (l : List S36) (s t val : Int) (al : List Int) (side : List Bool) (h : chk (n : Int) l = 0) (hs0 : 0 ≤ s) (hs1 : s < n) (hst : s ≠ t) (hlen : al.length = l.length) (hside : isCut n s t side) (d : Nat) : ∀ i : Nat, i + d = l.length →
    (∀ j, j < i → 0 ≤ al.getD j 0 ∧ al.getD j 0 ≤ (l.getD j z36).f2) →
    Ev (fun k => flow_certified.l0 k s t l (l.length : Int) (i : Int) (n : Int) l val al side) (B (isCert n l s t val al side)) := by
  obtain ⟨h1, h2, h3, h4⟩ := chk_ok h
  induction d with
  | zero =>
    intro i hi hj
    have hal : okAl l al := fun j h => hj j (by omega)
    refine Ev.step (fun _ => flow_certified.l0.eq_2 ..) ?_
    simp only [if_neg (show ¬ ((i : Int) < (l.length : Int)) by omega)]
    refine Ev.bind (net_ev h hlen (okAl_cap hal h4)) ?_
    simp only [netList_length]
    exact cert_l1 n l s t val al side h hs0 hs1 hst hlen hside hal n 0 (by omega) (fun u h => absurd h (by omega))
  | succ d ih =>
    intro i hi hj
    refine Ev.step (fun _ => flow_certified.l0.eq_2 ..) ?_
    rw [rd36_nat, rd_nat al]
    simp only [if_pos (show ((i : Int) < (l.length : Int)) by omega), if_pos (show ((i : Int) < (al.length : Int)) by omega), if_pos (show (0 : Int) ≤ (i : Int) by omega), wr1 (show i < 4611686018427387904 by omega)]
    by_cases c1 : al.getD i 0 < 0
    · simp only [if_pos c1]
      refine Ev.same (fun k => ?_)
      rw [B_false]
      intro q
      have := q.1.2.1 i (by omega)
      omega
    by_cases c2 : al.getD i 0 > (l.getD i z36).f2
    · simp only [if_neg c1, if_pos c2]
      refine Ev.same (fun k => ?_)
      rw [B_false]
      intro q
      have := q.1.2.1 i (by omega)
      omega
    simp only [if_neg c1, if_neg c2]
    refine ih (i + 1) (by omega) (fun j h => ?_)
    by_cases e : j = i
    · subst e; omega
    · exact hj j (by omega)
theorem cert_j0 (n : Nat) (l : List S36) (s t val : Int) (al : List Int) (side : List Bool) (b : Bool) (P : Prop) (h0 : b = true → ¬ P) (h1 : b = false → Ev (fun k => flow_certified.l0 k s t l (l.length : Int) 0 (n : Int) l val al side) (B P)) :
    Ev (fun k => flow_certified.j0 k s t b (n : Int) l val al side) (B P) := by
  refine Ev.step (fun _ => flow_certified.j0.eq_2 ..) ?_
  by_cases c : b = true
  · simp only [if_pos c]
    exact Ev.same (fun k => by rw [B_false (h0 c)])
  · simp only [if_neg c]
    exact h1 (by simpa using c)
theorem cert_ev {n : Nat} {l : List S36} {s t : Int} (he : endsOf (n : Int) l s t = 0) (val : Int) (al : List Int) (side : List Bool) : Ev (fun k => flow_certified.f k (n : Int) l s t val al side) (B (isCert n l s t val al side)) := by
  obtain ⟨h, hs0, hs1, ht0, ht1, hst⟩ := endsOf_ok he
  unfold flow_certified.f rdOf
  have J := cert_j0 n l s t val al side
  by_cases c1 : al.length = l.length
  · by_cases c2 : side.length = n
    · simp only [if_pos (show (al.length : Int) = (l.length : Int) by omega), if_pos (show (side.length : Int) = (n : Int) by omega), if_pos hs0, if_pos ht0, if_pos (show s < (side.length : Int) by omega), if_pos (show t < (side.length : Int) by omega)]
      by_cases c3 : side.getD s.toNat false = true
      · simp only [if_pos c3]
        refine J _ _ (fun e q => ?_) (fun e => ?_)
        · have := q.2.1.2.2
          rw [e] at this
          exact absurd this (by decide)
        · simpa using cert_l0 n l s t val al side h hs0 hs1 hst c1 ⟨c2, c3, e⟩ l.length 0 (by omega) (fun j h => absurd h (by omega))
      · simp only [if_neg c3]
        exact J true _ (fun _ q => c3 q.2.1.2.1) (fun e => absurd e (by decide))
    · simp only [if_pos (show (al.length : Int) = (l.length : Int) by omega), if_neg (show ¬ (side.length : Int) = (n : Int) by omega)]
      exact J true _ (fun _ q => c2 q.2.1.1) (fun e => absurd e (by decide))
  · simp only [if_neg (show ¬ (al.length : Int) = (l.length : Int) by omega)]
    exact J true _ (fun _ q => c1 q.1.1) (fun e => absurd e (by decide))
theorem Check_ev (v : Int) (l : List S36) (s t val : Int) (al : List Int) (side : List Bool) : Ev (fun k => flow_Check.f k v l s t val al side) (checkAns v l s t val al side) := by
  unfold checkAns flow_Check.f
  refine Ev.bind (ends_ev v l s t) ?_
  by_cases c : endsOf v l s t = 0
  · simp only [if_pos c]
    obtain ⟨n, rfl⟩ := endsOf_nat c
    refine Ev.bind (cert_ev c val al side) ?_
    refine Ev.same (fun k => ?_)
    simp only [Int.toNat_natCast]
    split <;> rfl
  · simp only [if_neg c]; exact Ev.same (fun _ => rfl)
def sumS (side : Nat → Bool) (g : Nat → Int) : Nat → Int
  | 0 => 0
  | u + 1 => sumS side g u + (if side u = true then g u else 0)
theorem sumS_add (side : Nat → Bool) (g h : Nat → Int) (n : Nat) : sumS side (fun u => g u + h u) n = sumS side g n + sumS side h n := by
  induction n with
  | zero => simp [sumS]
  | succ n ih => simp only [sumS, ih]; split <;> omega
theorem sumS_sub (side : Nat → Bool) (g h : Nat → Int) (n : Nat) : sumS side (fun u => g u - h u) n = sumS side g n - sumS side h n := by
  induction n with
  | zero => simp [sumS]
  | succ n ih => simp only [sumS, ih]; split <;> omega
theorem sumS_zero (side : Nat → Bool) (n : Nat) : sumS side (fun _ => 0) n = 0 := by
  induction n with
  | zero => simp [sumS]
  | succ n ih => simp [sumS, ih]
theorem sumS_one (side : Nat → Bool) (a : Nat) (x : Int) (n : Nat) : sumS side (fun u => if (a : Int) = (u : Int) then x else 0) n = if a < n ∧ side a = true then x else 0 := by
  induction n with
  | zero => simp [sumS]
  | succ n ih =>
    simp only [sumS, ih]
    by_cases c : a = n
    · subst c
      by_cases c2 : side a = true <;> simp [c2]
    · have c1 : ¬ (a : Int) = (n : Int) := by omega
      simp only [if_neg c1]
      by_cases c2 : side a = true <;> simp [c2] <;> (try split) <;> (try split) <;> omega
/-- what an arc brings out of a set -/
def xAt (side : Nat → Bool) (a : S36) (x : Int) : Int := (if side a.f0.toNat = true then x else 0) - (if side a.f1.toNat = true then x else 0)
def xTo (side : Nat → Bool) (l : List S36) (al : List Int) : Nat → Int
  | 0 => 0
  | i + 1 => xTo side l al i + xAt side (l.getD i z36) (al.getD i 0)
theorem sumS_flowAt {side : Nat → Bool} {a : S36} {n : Nat} (h : okArc (n : Int) a) (x : Int) : sumS side (fun u => flowAt (u : Int) a x) n = xAt side a x := by
  obtain ⟨f, hf⟩ : ∃ f : Nat, a.f0 = (f : Int) := ⟨a.f0.toNat, by unfold okArc at h; omega⟩
  obtain ⟨g, hg⟩ : ∃ g : Nat, a.f1 = (g : Int) := ⟨a.f1.toNat, by unfold okArc at h; omega⟩
  have h1 : f < n := by unfold okArc at h; omega
  have h2 : g < n := by unfold okArc at h; omega
  unfold flowAt xAt
  rw [sumS_sub, hf, hg, sumS_one, sumS_one]
  simp [h1, h2]
theorem sumS_netTo {side : Nat → Bool} {l : List S36} {al : List Int} {n : Nat} (h : okArcs (n : Int) l) (i : Nat) (hi : i ≤ l.length) : sumS side (fun u => netTo (u : Int) l al i) n = xTo side l al i := by
  induction i with
  | zero => simp [netTo, xTo, sumS_zero]
  | succ i ih =>
    have hx : okArc (n : Int) (l.getD i z36) := h _ (by simp [List.getD, show i < l.length by omega])
    simp only [netTo, xTo]
    rw [sumS_add, ih (by omega), sumS_flowAt hx]
def cutTo (side : List Bool) (l : List S36) : Nat → Int
  | 0 => 0
  | i + 1 => cutTo side l i + cutOf side (l.getD i z36)
theorem cutTo_take (side : List Bool) (l : List S36) (i : Nat) (hi : i ≤ l.length) : cutTo side l i = cut side (l.take i) := by
  induction i with
  | zero => simp [cutTo, cut]
  | succ i ih =>
    have hlt : i < l.length := by omega
    rw [cutTo, ih (by omega), List.take_succ_eq_append_getElem hlt, show l.getD i z36 = l[i] by simp [List.getD, hlt]]
    simp only [cut, List.map_append, List.sum_append, List.map_cons, List.map_nil, List.sum_cons, List.sum_nil, Int.add_zero]
theorem cutTo_all (side : List Bool) (l : List S36) : cutTo side l l.length = cut side l := by rw [cutTo_take _ _ _ (Nat.le_refl _), List.take_length]
def sideFn (side : List Bool) : Nat → Bool := fun u => side.getD u false
theorem xTo_le {side : List Bool} {l : List S36} {al : List Int} {v : Int} (hok : okArcs v l) (h : okAl l al) (i : Nat) (hi : i ≤ l.length) : xTo (sideFn side) l al i ≤ cutTo side l i := by
  induction i with
  | zero => simp [xTo, cutTo]
  | succ i ih =>
    have h1 := ih (by omega)
    have h2 := h i (by omega)
    have hx : okArc v (l.getD i z36) := hok _ (by simp [List.getD, show i < l.length by omega])
    have h3 : 0 ≤ (l.getD i z36).f2 := by unfold okArc at hx; omega
    rw [xTo, cutTo]
    generalize l.getD i z36 = a at hx h2 h3 ⊢
    generalize xTo (sideFn side) l al i = X at h1 ⊢
    unfold xAt cutOf sideFn
    by_cases c1 : side.getD a.f0.toNat false = true <;> by_cases c2 : side.getD a.f1.toNat false = true
    · simp only [if_pos c1, if_pos c2]; rw [if_neg (fun h => by rw [c2] at h; exact absurd h.2 (by decide))]; omega
    · simp only [if_pos c1, if_neg c2]; rw [if_pos ⟨c1, by simpa using c2⟩]; omega
    · simp only [if_neg c1, if_pos c2]; rw [if_neg (fun h => c1 h.1)]; omega
    · simp only [if_neg c1, if_neg c2]; rw [if_neg (fun h => c1 h.1)]; omega
theorem sumS_st {side : Nat → Bool} {g : Nat → Int} {S T : Nat} (hS : side S = true) (hST : S ≠ T) (n : Nat) (h : ∀ u, u < n → u ≠ S → u ≠ T → g u = 0) : sumS side g n = (if S < n then g S else 0) + (if T < n ∧ side T = true then g T else 0) := by
  induction n with
  | zero => simp [sumS]
  | succ n ih =>
    simp only [sumS, ih (fun u hu => h u (by omega))]
    by_cases c1 : n = S
    · subst c1
      rw [if_pos hS, if_neg (show ¬ n < n by omega), if_pos (show n < n + 1 by omega)]
      by_cases c : T < n ∧ side T = true
      · rw [if_pos c, if_pos ⟨by omega, c.2⟩]; omega
      · rw [if_neg c, if_neg (fun q => c ⟨by omega, q.2⟩)]; omega
    · by_cases c2 : n = T
      · subst c2
        rw [if_neg (show ¬ (n < n ∧ side n = true) by omega)]
        have e : (if S < n + 1 then g S else 0) = (if S < n then g S else 0) := by
          by_cases q : S < n
          · rw [if_pos q, if_pos (by omega)]
          · rw [if_neg q, if_neg (by omega)]
        rw [e]
        by_cases c : side n = true
        · rw [if_pos c, if_pos (show n < n + 1 ∧ side n = true from ⟨by omega, c⟩)]; omega
        · rw [if_neg c, if_neg (show ¬ (n < n + 1 ∧ side n = true) from fun q => c q.2), Int.add_zero]
      · have e0 := h n (by omega) c1 c2
        have e1 : (if S < n + 1 then g S else 0) = (if S < n then g S else 0) := by
          by_cases q : S < n
          · rw [if_pos q, if_pos (by omega)]
          · rw [if_neg q, if_neg (by omega)]
        have e2 : (if T < n + 1 ∧ side T = true then g T else 0) = (if T < n ∧ side T = true then g T else 0) := by
          by_cases q : T < n ∧ side T = true
          · rw [if_pos q, if_pos ⟨by omega, q.2⟩]
          · rw [if_neg q, if_neg (fun r => q ⟨by omega, r.2⟩)]
        rw [e1, e2, e0]
        split <;> omega
/-- the value of a flow is what it brings out of any set with s and without t -/
theorem flow_across {n : Nat} {l : List S36} {S T : Nat} {al : List Int} (hok : okArcs (n : Int) l) (hf : isFlow n l (S : Int) (T : Int) al) (hS : S < n) (hT : T < n) (hST : S ≠ T) {side : Nat → Bool} (h1 : side S = true) :
    netAt (S : Int) l al + (if side T = true then netAt (T : Int) l al else 0) = xTo side l al l.length := by
  rw [← sumS_netTo hok l.length (Nat.le_refl _)]
  rw [sumS_st (g := fun u => netTo (u : Int) l al l.length) h1 hST n (fun u hu h2 h3 => hf.2.2 u hu (by omega) (by omega))]
  rw [if_pos hS]
  unfold netAt
  by_cases c : side T = true
  · rw [if_pos c, if_pos ⟨hT, c⟩]
  · rw [if_neg c, if_neg (fun q => c q.2)]
theorem xTo_whole (l : List S36) (al : List Int) (i : Nat) : xTo (fun _ => true) l al i = 0 := by
  induction i with
  | zero => rfl
  | succ i ih => simp [xTo, xAt, ih]
/-- what flows out of s flows into t -/
theorem flow_ends_eq {n : Nat} {l : List S36} {s t : Int} {al : List Int} (he : endsOf (n : Int) l s t = 0) (hf : isFlow n l s t al) : netAt s l al = - netAt t l al := by
  obtain ⟨h, hs0, hs1, ht0, ht1, hst⟩ := endsOf_ok he
  obtain ⟨_, _, _, h4⟩ := chk_ok h
  obtain ⟨S, rfl⟩ : ∃ S : Nat, s = (S : Int) := ⟨s.toNat, by omega⟩
  obtain ⟨T, rfl⟩ : ∃ T : Nat, t = (T : Int) := ⟨t.toNat, by omega⟩
  have e1 := flow_across (side := fun _ => true) h4 hf (by omega) (by omega) (by omega) rfl
  rw [if_pos rfl, xTo_whole] at e1
  omega
theorem netAt_bound {n : Nat} {l : List S36} {s t : Int} {al : List Int} (h : chk (n : Int) l = 0) (hf : isFlow n l s t al) (u : Int) : -1125899906842624 ≤ netAt u l al ∧ netAt u l al ≤ 1125899906842624 := by
  obtain ⟨_, _, h3, h4⟩ := chk_ok h
  have := netTo_bound u l al l.length (okAl_cap hf.2.1 h4)
  unfold netAt
  omega
abbrev Stp := Nat × Bool
def arc (l : List S36) (i : Nat) : S36 := l.getD i z36
def fromV (l : List S36) (x : Stp) : Nat := if x.2 = true then (arc l x.1).f1.toNat else (arc l x.1).f0.toNat
def toV (l : List S36) (x : Stp) : Nat := if x.2 = true then (arc l x.1).f0.toNat else (arc l x.1).f1.toNat
def room (l : List S36) (al : List Int) (x : Stp) : Int := if x.2 = true then al.getD x.1 0 else (arc l x.1).f2 - al.getD x.1 0
theorem arc_ok {n : Nat} {l : List S36} (h : okArcs (n : Int) l) {i : Nat} (hi : i < l.length) : okArc (n : Int) (arc l i) := h _ (by simp [arc, List.getD, hi])
theorem toV_lt {n : Nat} {l : List S36} (h : okArcs (n : Int) l) {x : Stp} (hi : x.1 < l.length) : toV l x < n := by
  have := arc_ok h hi
  unfold okArc at this
  unfold toV
  split <;> omega
theorem fromV_lt {n : Nat} {l : List S36} (h : okArcs (n : Int) l) {x : Stp} (hi : x.1 < l.length) : fromV l x < n := by
  have := arc_ok h hi
  unfold okArc at this
  unfold fromV
  split <;> omega

/-! ### the search, plain -/
structure ASt where
  D : List Nat
  par : Nat → Stp
noncomputable def aStep (l : List S36) (al : List Int) (st : ASt) (x : Stp) : ASt :=
  if 0 < room l al x ∧ ¬ toV l x ∈ st.D then ⟨st.D ++ [toV l x], fun v => if v = toV l x then x else st.par v⟩ else st
structure AInv (n : Nat) (l : List S36) (al : List Int) (s : Nat) (st : ASt) : Prop where
  nodup : st.D.Nodup
  lt : ∀ v, v ∈ st.D → v < n
  head : st.D[0]? = some s
  par : ∀ idx v, st.D[idx]? = some v → v ≠ s → (st.par v).1 < l.length ∧ toV l (st.par v) = v ∧ 0 < room l al (st.par v) ∧ ∃ j : Nat, j < idx ∧ st.D[j]? = some (fromV l (st.par v))
theorem AInv.first {n : Nat} {l : List S36} {al : List Int} {s : Nat} (hs : s < n) (p : Nat → Stp) : AInv n l al s ⟨[s], p⟩ := by
  refine ⟨by simp, fun v hv => by simp at hv; omega, by simp, fun idx v h hne => ?_⟩
  cases idx with
  | zero => simp at h; exact absurd h.symm hne
  | succ j => simp at h
theorem aStep_inv {n : Nat} {l : List S36} {al : List Int} {s : Nat} {st : ASt} (hok : okArcs (n : Int) l) (h : AInv n l al s st) {x : Stp} (hx : x.1 < l.length) (hf : fromV l x ∈ st.D) : AInv n l al s (aStep l al st x) := by
  unfold aStep
  split
  · rename_i hc
    obtain ⟨h1, h2⟩ := hc
    have hs : s ∈ st.D := List.mem_of_getElem? h.head
    have hlen : 0 < st.D.length := (List.getElem?_eq_some_iff.1 h.head).1
    refine ⟨?_, ?_, ?_, ?_⟩
    · rw [List.nodup_append]
      refine ⟨h.nodup, by simp, fun a ha b hb e => ?_⟩
      simp at hb
      subst hb; subst e
      exact h2 ha
    · intro v hv
      simp at hv
      rcases hv with hv | rfl
      · exact h.lt v hv
      · exact toV_lt hok hx
    · rw [List.getElem?_append_left hlen]; exact h.head
    · intro idx v hv hne
      rcases Nat.lt_or_ge idx st.D.length with hl | hl
      · rw [List.getElem?_append_left hl] at hv
        have hvD : v ∈ st.D := List.mem_of_getElem? hv
        have hne2 : v ≠ toV l x := fun e => h2 (e ▸ hvD)
        obtain ⟨p1, p2, p3, j, hj, p4⟩ := h.par idx v hv hne
        simp only [if_neg hne2]
        exact ⟨p1, p2, p3, j, hj, by rw [List.getElem?_append_left (by omega)]; exact p4⟩
      · rw [List.getElem?_append_right hl] at hv
        have e : idx - st.D.length = 0 := by
          have := (List.getElem?_eq_some_iff.1 hv).1
          simpa using this
        rw [e] at hv
        simp at hv
        subst hv
        simp only [if_pos]
        obtain ⟨j, hj⟩ := List.getElem?_of_mem hf
        have hjl := (List.getElem?_eq_some_iff.1 hj).1
        exact ⟨hx, trivial, h1, j, by omega, by rw [List.getElem?_append_left hjl]; exact hj⟩
  · exact h
theorem aStep_pre (l : List S36) (al : List Int) (st : ASt) (x : Stp) : ∃ E, (aStep l al st x).D = st.D ++ E := by
  unfold aStep
  split
  · exact ⟨_, rfl⟩
  · exact ⟨[], by simp⟩
theorem aStep_in (l : List S36) (al : List Int) (st : ASt) (x : Stp) (h : 0 < room l al x) : toV l x ∈ (aStep l al st x).D := by
  unfold aStep
  split
  · simp
  · rename_i hc
    by_cases c : toV l x ∈ st.D
    · exact c
    · exact absurd ⟨h, c⟩ hc
noncomputable def aInner (l : List S36) (al : List Int) (xs : List Stp) (st : ASt) : ASt := xs.foldl (aStep l al) st
theorem aInner_inv {n : Nat} {l : List S36} {al : List Int} {s : Nat} (hok : okArcs (n : Int) l) (v : Nat) : ∀ (xs : List Stp) (st : ASt), AInv n l al s st → v ∈ st.D → (∀ x ∈ xs, x.1 < l.length ∧ fromV l x = v) →
    AInv n l al s (aInner l al xs st) ∧ (∃ E, (aInner l al xs st).D = st.D ++ E) ∧ ∀ x ∈ xs, 0 < room l al x → toV l x ∈ (aInner l al xs st).D := by
  intro xs
  induction xs with
  | nil => intro st h _ _; exact ⟨h, ⟨[], by simp [aInner]⟩, by simp⟩
  | cons x xs ih =>
    intro st h hv hx
    obtain ⟨h1, h2⟩ := hx x (by simp)
    have hi := aStep_inv hok h h1 (by rw [h2]; exact hv)
    obtain ⟨E, hE⟩ := aStep_pre l al st x
    obtain ⟨q1, ⟨E2, q2⟩, q3⟩ := ih (aStep l al st x) hi (by rw [hE]; simp [hv]) (fun y hy => hx y (by simp [hy]))
    have e : aInner l al (x :: xs) st = aInner l al xs (aStep l al st x) := rfl
    rw [e]
    refine ⟨q1, ⟨E ++ E2, by rw [q2, hE, List.append_assoc]⟩, fun y hy hr => ?_⟩
    rcases List.mem_cons.1 hy with rfl | hy
    · rw [q2]; exact List.mem_append_left _ (aStep_in l al st _ hr)
    · exact q3 y hy hr

/-! ### rows of steps -/
def adjTo (l : List S36) (i : Nat) (v : Nat) : List Stp := (List.range i).flatMap fun j => (if (arc l j).f0 = (v : Int) then [(j, false)] else []) ++ (if (arc l j).f1 = (v : Int) then [(j, true)] else [])
theorem adjTo_succ (l : List S36) (i v : Nat) : adjTo l (i + 1) v = adjTo l i v ++ ((if (arc l i).f0 = (v : Int) then [(i, false)] else []) ++ (if (arc l i).f1 = (v : Int) then [(i, true)] else [])) := by
  unfold adjTo
  rw [List.range_succ, List.flatMap_append]
  simp
theorem adjTo_mem {n : Nat} {l : List S36} (hok : okArcs (n : Int) l) (v : Nat) (x : Stp) : ∀ i, i ≤ l.length → (x ∈ adjTo l i v ↔ x.1 < i ∧ fromV l x = v) := by
  intro i
  induction i with
  | zero => intro _; simp [adjTo]
  | succ i ih =>
    intro hi
    rw [adjTo_succ, List.mem_append, ih (by omega)]
    have ho := arc_ok hok (show i < l.length by omega)
    unfold okArc at ho
    obtain ⟨j, b⟩ := x
    constructor
    · rintro (h | h)
      · exact ⟨by omega, h.2⟩
      · rw [List.mem_append] at h
        rcases h with h | h
        · split at h
          · simp at h; obtain ⟨rfl, rfl⟩ := h
            refine ⟨by simp, ?_⟩
            simp [fromV]; omega
          · simp at h
        · split at h
          · simp at h; obtain ⟨rfl, rfl⟩ := h
            refine ⟨by simp, ?_⟩
            simp [fromV]; omega
          · simp at h
    · rintro ⟨h1, h2⟩
      simp only at h1
      by_cases c : j < i
      · exact .inl ⟨c, h2⟩
      · right
        obtain rfl : j = i := by omega
        rw [List.mem_append]
        cases b with
        | false =>
          left
          have e : (arc l j).f0 = (v : Int) := by simp [fromV] at h2; omega
          rw [if_pos e]; simp
        | true =>
          right
          have e : (arc l j).f1 = (v : Int) := by simp [fromV] at h2; omega
          rw [if_pos e]; simp
theorem adjTo_len (l : List S36) (v i : Nat) : (adjTo l i v).length ≤ 2 * i := by
  induction i with
  | zero => simp [adjTo]
  | succ i ih =>
    rw [adjTo_succ, List.length_append, List.length_append]
    split <;> split <;> simp <;> omega
def pAt {α : Type} (enc : Stp → α) : Nat → List S36 → List (List α) → Option (List (List α))
  | _, [], at_ => some at_
  | i, a :: xs, at_ => (gPut at_ a.f0 (enc (i, false))).bind fun at1 => (gPut at1 a.f1 (enc (i, true))).bind (pAt enc (i + 1) xs)
theorem gPut_ok {α : Type} {rows : List (List α)} {n v : Nat} (x : α) (hn : rows.length = n) (hv : v < n) (hl : (rows.getD v []).length < 1099511627776) :
    ∃ rows', gPut rows (v : Int) x = some rows' ∧ rows'.length = n ∧ ∀ u, u < n → rows'.getD u [] = rows.getD u [] ++ (if v = u then [x] else []) := by
  unfold gPut
  rw [if_pos ⟨by omega, by omega, by simpa using hl⟩]
  refine ⟨_, rfl, by simpa using hn, fun u hu => ?_⟩
  simp only [Int.toNat_natCast, List.getD_eq_getElem?_getD, List.getElem?_set]
  by_cases c : v = u
  · subst c; simp [hn, hv]
  · simp [c]
theorem pAt_ok {α : Type} (enc : Stp → α) {n : Nat} {l : List S36} (hok : okArcs (n : Int) l) (hl : l.length ≤ 1024) (d : Nat) : ∀ (i : Nat) (rows : List (List α)), i + d = l.length → rows.length = n → (∀ v, v < n → rows.getD v [] = (adjTo l i v).map enc) →
    ∃ rows', pAt enc i (l.drop i) rows = some rows' ∧ rows'.length = n ∧ ∀ v, v < n → rows'.getD v [] = (adjTo l l.length v).map enc := by
  induction d with
  | zero =>
    intro i rows hi hn hr
    obtain rfl : i = l.length := by omega
    exact ⟨rows, by simp [pAt], hn, hr⟩
  | succ d ih =>
    intro i rows hi hn hr
    have hil : i < l.length := by omega
    rw [getD_drop z36 l i hil]
    have ho := arc_ok hok hil
    unfold okArc at ho
    change ∃ rows', pAt enc i (arc l i :: l.drop (i + 1)) rows = some rows' ∧ _
    obtain ⟨f, hf⟩ : ∃ f : Nat, (arc l i).f0 = (f : Int) := ⟨(arc l i).f0.toNat, by omega⟩
    obtain ⟨g, hg⟩ : ∃ g : Nat, (arc l i).f1 = (g : Int) := ⟨(arc l i).f1.toNat, by omega⟩
    have hb : ∀ v, (adjTo l i v).length < 2000000 := fun v => by have := adjTo_len l v i; omega
    obtain ⟨r1, e1, n1, h1⟩ := gPut_ok (n := n) (v := f) (enc (i, false)) hn (by omega) (by rw [hr f (by omega), List.length_map]; have := hb f; omega)
    obtain ⟨r2, e2, n2, h2⟩ := gPut_ok (n := n) (v := g) (enc (i, true)) n1 (by omega) (by
      rw [h1 g (by omega), hr g (by omega), List.length_append, List.length_map]
      have := hb g
      split <;> simp <;> omega)
    obtain ⟨r3, e3, n3, h3⟩ := ih (i + 1) r2 (by omega) n2 (fun v hv => by
      rw [h2 v hv, h1 v hv, hr v hv, adjTo_succ, hf, hg, List.map_append, List.append_assoc]
      congr 1
      rw [List.map_append]
      congr 1
      · by_cases c : f = v
        · simp [c]
        · rw [if_neg c, if_neg (by omega)]; rfl
      · by_cases c : g = v
        · simp [c]
        · rw [if_neg c, if_neg (by omega)]; rfl)
    refine ⟨r3, ?_, n3, h3⟩
    simp only [pAt, hf, hg, e1, e2, Option.bind_some]
    exact e3
def encS (x : Stp) : S86 := ⟨(x.1 : Int), x.2⟩
def encI (x : Stp) : Int := if x.2 = true then wrap64 (wrap64 (2 * (x.1 : Int)) + 1) else wrap64 (2 * (x.1 : Int))
theorem gAt_pAt : ∀ (xs : List S36) (i : Nat) (rows : List (List S86)), gAt i xs rows = pAt encS i xs rows
  | [], _, _ => rfl
  | a :: xs, i, rows => by
    simp only [gAt, pAt, show encS (i, false) = ⟨(i : Int), false⟩ from rfl, show encS (i, true) = ⟨(i : Int), true⟩ from rfl, show gAt (i + 1) xs = pAt encS (i + 1) xs from funext (gAt_pAt xs (i + 1))]
theorem encI_val {x : Stp} (h : x.1 ≤ 1024) : encI x = 2 * (x.1 : Int) + (if x.2 = true then 1 else 0) := by
  unfold encI
  rw [wr0 (x := 2 * (x.1 : Int)) (by omega) (by omega)]
  split
  · rw [wr0 (by omega) (by omega)]
  · omega
theorem encI_half {x : Stp} (h : x.1 ≤ 1024) : rHalf (encI x) = (x.1 : Int) := by
  unfold rHalf
  rw [encI_val h]
  have e : Int.tdiv (2 * (x.1 : Int) + (if x.2 = true then 1 else 0)) 2 = (x.1 : Int) := by
    rw [Int.tdiv_eq_ediv_of_nonneg (by split <;> omega)]; split <;> omega
  rw [e, wr0 (by omega) (by omega)]
theorem encI_mod {x : Stp} (h : x.1 ≤ 1024) : Int.tmod (encI x) 2 = if x.2 = true then 1 else 0 := by
  rw [encI_val h, Int.tmod_eq_emod_of_nonneg (by split <;> omega)]
  split <;> omega
/-- a network with a flow's numbers -/
structure Net (n : Nat) (l : List S36) (al : List Int) : Prop where
  hn : n ≤ 256
  hl : l.length ≤ 1024
  ok : okArcs (n : Int) l
  len : al.length = l.length
  al : okAl l al
theorem Net.room_bd {n : Nat} {l : List S36} {al : List Int} (h : Net n l al) {x : Stp} (hx : x.1 < l.length) : 0 ≤ room l al x ∧ room l al x ≤ 1099511627776 := by
  have h1 := h.al x.1 hx
  have h2 := arc_ok h.ok hx
  unfold okArc at h2
  unfold room
  change 0 ≤ al.getD x.1 0 ∧ al.getD x.1 0 ≤ (arc l x.1).f2 at h1
  split <;> omega
theorem toV_int {n : Nat} {l : List S36} (h : okArcs (n : Int) l) {x : Stp} (hi : x.1 < l.length) : ((toV l x : Nat) : Int) = if x.2 = true then (arc l x.1).f0 else (arc l x.1).f1 := by
  have := arc_ok h hi
  unfold okArc at this
  unfold toV
  split <;> omega
theorem fromV_int {n : Nat} {l : List S36} (h : okArcs (n : Int) l) {x : Stp} (hi : x.1 < l.length) : ((fromV l x : Nat) : Int) = if x.2 = true then (arc l x.1).f1 else (arc l x.1).f0 := by
  have := arc_ok h hi
  unfold okArc at this
  unfold fromV
  split <;> omega
theorem srRoom_eq {n : Nat} {l : List S36} {al : List Int} (h : Net n l al) {x : Stp} (hx : x.1 < l.length) : srRoom l al (encS x) = room l al x := by
  have h1 := h.room_bd hx
  unfold srRoom encS room
  simp only [rd_nat, rd36_nat]
  unfold room at h1
  split
  · rfl
  · rename_i c
    rw [if_neg c] at h1
    exact wr0 (by unfold arc at h1; omega) (by unfold arc at h1; omega)
theorem srTo_eq {n : Nat} {l : List S36} (h : okArcs (n : Int) l) {x : Stp} (hx : x.1 < l.length) : srTo l (encS x) = ((toV l x : Nat) : Int) := by
  rw [toV_int h hx]
  unfold srTo encS
  simp only [rd36_nat]
  rfl

/-! ### flow.search -/
structure SRel (n s : Nat) (st : ASt) (seen : List Bool) (how : List S86) : Prop where
  l1 : seen.length = n
  l2 : how.length = n
  yes : ∀ v, v < n → (seen.getD v false = true ↔ v ∈ st.D)
  how : ∀ v, v ∈ st.D → v ≠ s → how.getD v z86 = encS (st.par v)
theorem nodup_len : ∀ {n : Nat} {D : List Nat}, D.Nodup → (∀ v, v ∈ D → v < n) → D.length ≤ n := by
  intro n
  induction n with
  | zero =>
    intro D _ hlt
    cases D with
    | nil => simp
    | cons a D => exact absurd (hlt a (by simp)) (by omega)
  | succ n ih =>
    intro D h hlt
    have h1 : (D.erase n).length ≤ n := ih (h.erase n) (fun v hv => by
      have := (h.mem_erase_iff).1 hv
      have := hlt v this.2
      omega)
    have h2 := List.length_erase (a := n) (l := D)
    split at h2 <;> omega
theorem srStep_sim {n s : Nat} {l : List S36} {al : List Int} (h : Net n l al) {st : ASt} (hi : AInv n l al s st) {x : Stp} (hx : x.1 < l.length) (hf : fromV l x ∈ st.D) {seen : List Bool} {how : List S86} (hr : SRel n s st seen how) {k : Nat} (hk : k ≤ st.D.length) :
    ∃ seen' how', srStep l al ⟨seen, how, (st.D.drop k).map Int.ofNat⟩ (encS x) = some ⟨seen', how', ((aStep l al st x).D.drop k).map Int.ofNat⟩ ∧ SRel n s (aStep l al st x) seen' how' := by
  have hto := toV_lt h.ok hx
  have hlenD := nodup_len hi.nodup hi.lt
  have hn := h.hn
  unfold srStep
  simp only [srRoom_eq h hx, srTo_eq h.ok hx]
  rw [if_pos ⟨by simp [encS], by simp only [encS]; omega, by have := h.len; simp only [encS]; omega, by omega, by have := hr.l1; omega, by have := hr.l2; omega, by simp only [List.length_map, List.length_drop]; omega⟩]
  have e : rdOf false seen ((toV l x : Nat) : Int) = seen.getD (toV l x) false := rdOf_nat _ _ _
  rw [e]
  unfold aStep
  by_cases c1 : 0 < room l al x
  · rw [if_pos c1]
    by_cases c2 : toV l x ∈ st.D
    · rw [if_pos ((hr.yes _ hto).2 c2), if_neg (fun q => q.2 c2)]
      exact ⟨_, _, rfl, hr⟩
    · rw [if_neg (fun q => c2 ((hr.yes _ hto).1 q)), if_pos ⟨c1, c2⟩]
      refine ⟨seen.set (toV l x) true, how.set (toV l x) (encS x), ?_, ?_⟩
      · rw [List.drop_append_of_le_length hk, List.map_append]; rfl
      · refine ⟨by simpa using hr.l1, by simpa using hr.l2, fun v hv => ?_, fun v hv hne => ?_⟩
        · simp only [Int.toNat_natCast, List.getD_eq_getElem?_getD, List.getElem?_set, List.mem_append, List.mem_singleton]
          have := hr.yes v hv
          rw [List.getD_eq_getElem?_getD] at this
          by_cases q : toV l x = v
          · subst q; simp [hr.l1, hv]
          · rw [if_neg q, this]
            constructor
            · exact fun p => .inl p
            · rintro (p | p)
              · exact p
              · exact absurd p.symm q
        · simp only [Int.toNat_natCast, List.getD_eq_getElem?_getD, List.getElem?_set]
          by_cases q : toV l x = v
          · subst q; simp [hr.l2, hto]
          · have hv2 : v ∈ st.D := by
              rcases List.mem_append.1 hv with p | p
              · exact p
              · exact absurd (List.mem_singleton.1 p).symm q
            have := hr.how v hv2 hne
            rw [List.getD_eq_getElem?_getD] at this
            rw [if_neg q, if_neg (fun p => q p.symm), this]
  · rw [if_neg c1, if_neg (fun q => c1 q.1)]
    exact ⟨_, _, rfl, hr⟩
theorem srInner_sim {n s : Nat} {l : List S36} {al : List Int} (h : Net n l al) (v : Nat) (k : Nat) : ∀ (xs : List Stp) (st : ASt) (seen : List Bool) (how : List S86), AInv n l al s st → v ∈ st.D → k ≤ st.D.length → (∀ x ∈ xs, x.1 < l.length ∧ fromV l x = v) → SRel n s st seen how →
    ∃ seen' how', srInner l al (xs.map encS) ⟨seen, how, (st.D.drop k).map Int.ofNat⟩ = some ⟨seen', how', ((aInner l al xs st).D.drop k).map Int.ofNat⟩ ∧ SRel n s (aInner l al xs st) seen' how' := by
  intro xs
  induction xs with
  | nil => intro st seen how _ _ _ _ hr; exact ⟨_, _, rfl, hr⟩
  | cons x xs ih =>
    intro st seen how hi hv hk hx hr
    obtain ⟨h1, h2⟩ := hx x (by simp)
    obtain ⟨s1, w1, e1, r1⟩ := srStep_sim h hi h1 (by rw [h2]; exact hv) hr hk
    obtain ⟨E, hE⟩ := aStep_pre l al st x
    obtain ⟨s2, w2, e2, r2⟩ := ih (aStep l al st x) s1 w1 (aStep_inv h.ok hi h1 (by rw [h2]; exact hv)) (by rw [hE]; simp [hv]) (by rw [hE, List.length_append]; omega) (fun y hy => hx y (by simp [hy])) r1
    refine ⟨s2, w2, ?_, r2⟩
    simp only [List.map_cons, srInner, e1, Option.bind_some]
    exact e2
/-- what a search has found when it ends -/
structure Found (n s : Nat) (l : List S36) (al : List Int) (st : ASt) : Prop where
  inv : AInv n l al s st
  closed : ∀ x : Stp, x.1 < l.length → fromV l x ∈ st.D → 0 < room l al x → toV l x ∈ st.D
theorem srLoop_sim {n s : Nat} {l : List S36} {al : List Int} (h : Net n l al) {at_ : List (List S86)} (hat : at_.length = n) (hrows : ∀ v, v < n → at_.getD v [] = (adjTo l l.length v).map encS) : ∀ (f k : Nat) (st : ASt) (seen : List Bool) (how : List S86), n < f + k → AInv n l al s st → k ≤ st.D.length →
    (∀ j u, j < k → st.D[j]? = some u → ∀ x : Stp, x.1 < l.length → fromV l x = u → 0 < room l al x → toV l x ∈ st.D) → SRel n s st seen how →
    ∃ seen' how' st', srLoop l al at_ f ⟨seen, how, (st.D.drop k).map Int.ofNat⟩ = some (seen', how') ∧ Found n s l al st' ∧ SRel n s st' seen' how' := by
  intro f
  induction f with
  | zero =>
    intro k st seen how hf hi hk
    have := nodup_len hi.nodup hi.lt
    omega
  | succ f ih =>
    intro k st seen how hf hi hk hcl hr
    rcases Nat.lt_or_ge k st.D.length with hlt | hge
    · have hd : st.D.drop k = st.D[k] :: st.D.drop (k + 1) := List.drop_eq_getElem_cons hlt
      have hvD : st.D[k] ∈ st.D := List.getElem_mem hlt
      have hvn := hi.lt _ hvD
      generalize hv : st.D[k] = v at hd hvD hvn
      rw [hd, List.map_cons]
      simp only [srLoop]
      rw [if_pos ⟨by simp, by simp only [Int.ofNat_eq_natCast]; omega⟩]
      have e0 : (Int.ofNat v).toNat = v := rfl
      rw [e0, hrows v hvn]
      have hx : ∀ x ∈ adjTo l l.length v, x.1 < l.length ∧ fromV l x = v := fun x hx => (adjTo_mem h.ok v x l.length (Nat.le_refl _)).1 hx
      obtain ⟨s1, w1, e1, r1⟩ := srInner_sim (s := s) h v (k + 1) (adjTo l l.length v) st seen how hi hvD (by omega) hx hr
      obtain ⟨q1, ⟨E, q2⟩, q3⟩ := aInner_inv h.ok v (adjTo l l.length v) st hi hvD hx
      rw [e1]
      simp only [Option.bind_some]
      refine ih (k + 1) _ s1 w1 (by omega) q1 (by rw [q2, List.length_append]; omega) ?_ r1
      intro j u hj hu x hx1 hx2 hx3
      by_cases c : j = k
      · subst c
        rw [q2, List.getElem?_append_left hlt, List.getElem?_eq_getElem hlt, hv] at hu
        obtain rfl := Option.some.inj hu
        exact q3 x ((adjTo_mem h.ok _ x l.length (Nat.le_refl _)).2 ⟨hx1, hx2⟩) hx3
      · rw [q2, List.getElem?_append_left (by omega)] at hu
        rw [q2]
        exact List.mem_append_left _ (hcl j u (by omega) hu x hx1 hx2 hx3)
    · rw [List.drop_of_length_le hge]
      refine ⟨seen, how, st, by simp [srLoop], ⟨hi, fun x hx1 hx2 hx3 => ?_⟩, hr⟩
      obtain ⟨j, hj⟩ := List.getElem?_of_mem hx2
      have := (List.getElem?_eq_some_iff.1 hj).1
      exact hcl j _ (by omega) hj x hx1 rfl hx3
theorem search_ok {n s : Nat} {l : List S36} {al : List Int} (h : Net n l al) (hs : s < n) {at_ : List (List S86)} (hat : at_.length = n) (hrows : ∀ v, v < n → at_.getD v [] = (adjTo l l.length v).map encS) {k : Nat} (hk : n < k) :
    ∃ seen how st, flow_search.f k (n : Int) l al at_ (s : Int) = some (seen, how) ∧ Found n s l al st ∧ SRel n s st seen how := by
  have hn := h.hn
  unfold flow_search.f
  rw [if_pos ⟨by omega, by omega, by omega⟩]
  have e1 : ((n : Int)).toNat = n := rfl
  have e2 : ((s : Int)).toNat = s := rfl
  rw [e1, e2]
  refine srLoop_sim h hat hrows k 0 ⟨[s], fun _ => (0, false)⟩ _ _ (by omega) (AInv.first hs _) (by simp) (fun j u hj => by omega) ⟨by simp, by simp, fun v hv => ?_, fun v hv hne => ?_⟩
  · simp only [List.getD_eq_getElem?_getD, List.getElem?_set, List.mem_singleton]
    by_cases q : s = v
    · subst q; simp [hs]
    · rw [if_neg q]; simp [List.getElem?_replicate, hv]; exact fun p => q p.symm
  · simp at hv; exact absurd hv hne
theorem flowAt_add (v : Int) (a : S36) (x d : Int) : flowAt v a (x + d) = flowAt v a x + flowAt v a d := by
  unfold flowAt
  split <;> split <;> omega
theorem netTo_set (u : Int) (l : List S36) (al : List Int) (i : Nat) (z : Int) (hi : i < al.length) : ∀ k, netTo u l (al.set i z) k = netTo u l al k + (if i < k then flowAt u (arc l i) (z - al.getD i 0) else 0) := by
  intro k
  induction k with
  | zero => simp [netTo]
  | succ k ih =>
    simp only [netTo, ih]
    by_cases c : i = k
    · subst c
      have e : (al.set i z).getD i 0 = al.getD i 0 + (z - al.getD i 0) := by simp [List.getD, hi]; omega
      rw [if_neg (show ¬ i < i by omega), if_pos (show i < i + 1 by omega), e, flowAt_add]
      change _ = netTo u l al i + flowAt u (l.getD i z36) (al.getD i 0) + flowAt u (l.getD i z36) (z - al.getD i 0)
      omega
    · have e : (al.set i z).getD k 0 = al.getD k 0 := by simp [List.getD, List.getElem?_set, c]
      rw [e]
      by_cases q : i < k
      · rw [if_pos q, if_pos (by omega)]; omega
      · rw [if_neg q, if_neg (by omega)]; omega
/-- what a step brings out of u -/
def dlt (l : List S36) (u : Nat) (x : Stp) : Int := (if fromV l x = u then 1 else 0) - (if toV l x = u then 1 else 0)
def amtSet (al : List Int) (m : Int) (x : Stp) : Int := if x.2 = true then al.getD x.1 0 - m else al.getD x.1 0 + m
theorem step_net {n : Nat} {l : List S36} {al : List Int} (h : Net n l al) {x : Stp} (hx : x.1 < l.length) {m : Int} (hm0 : 0 < m) (hm : m ≤ room l al x) :
    Net n l (al.set x.1 (amtSet al m x)) ∧ (∀ y : Stp, y.1 ≠ x.1 → room l (al.set x.1 (amtSet al m x)) y = room l al y) ∧ ∀ u : Nat, netAt (u : Int) l (al.set x.1 (amtSet al m x)) = netAt (u : Int) l al + m * dlt l u x := by
  have ho := arc_ok h.ok hx
  have hal := h.al x.1 hx
  change 0 ≤ al.getD x.1 0 ∧ al.getD x.1 0 ≤ (arc l x.1).f2 at hal
  have hlen := h.len
  refine ⟨⟨h.hn, h.hl, h.ok, by simpa using h.len, fun j hj => ?_⟩, fun y hy => ?_, fun u => ?_⟩
  · by_cases c : x.1 = j
    · subst c
      have e : (al.set x.1 (amtSet al m x)).getD x.1 0 = amtSet al m x := by simp [List.getD, hlen, hx]
      rw [e]
      change 0 ≤ amtSet al m x ∧ amtSet al m x ≤ (arc l x.1).f2
      unfold amtSet
      unfold room at hm
      split at hm
      · rename_i q; rw [if_pos q]; omega
      · rename_i q; rw [if_neg q]; omega
    · have e : (al.set x.1 (amtSet al m x)).getD j 0 = al.getD j 0 := by simp [List.getD, List.getElem?_set, c]
      rw [e]; exact h.al j hj
  · unfold room
    have e : (al.set x.1 (amtSet al m x)).getD y.1 0 = al.getD y.1 0 := by simp [List.getD, List.getElem?_set, Ne.symm hy]
    rw [e]
  · unfold netAt
    rw [netTo_set _ _ _ _ _ (by omega), if_pos hx]
    congr 1
    obtain ⟨i, b⟩ := x
    have e0 : ((arc l i).f0 = (u : Int)) ↔ (arc l i).f0.toNat = u := by unfold okArc at ho; simp only at ho; omega
    have e1 : ((arc l i).f1 = (u : Int)) ↔ (arc l i).f1.toNat = u := by unfold okArc at ho; simp only at ho; omega
    unfold dlt flowAt amtSet fromV toV
    cases b with
    | true =>
      simp only [if_pos]
      by_cases c0 : (arc l i).f0 = (u : Int) <;> by_cases c1 : (arc l i).f1 = (u : Int)
      · rw [if_pos c0, if_pos c1, if_pos (e1.1 c1), if_pos (e0.1 c0)]; omega
      · rw [if_pos c0, if_neg c1, if_neg (fun q => c1 (e1.2 q)), if_pos (e0.1 c0)]; omega
      · rw [if_neg c0, if_pos c1, if_pos (e1.1 c1), if_neg (fun q => c0 (e0.2 q))]; omega
      · rw [if_neg c0, if_neg c1, if_neg (fun q => c1 (e1.2 q)), if_neg (fun q => c0 (e0.2 q))]; omega
    | false =>
      simp only [Bool.false_eq_true, if_false]
      by_cases c0 : (arc l i).f0 = (u : Int) <;> by_cases c1 : (arc l i).f1 = (u : Int)
      · rw [if_pos c0, if_pos c1, if_pos (e0.1 c0), if_pos (e1.1 c1)]; omega
      · rw [if_pos c0, if_neg c1, if_pos (e0.1 c0), if_neg (fun q => c1 (e1.2 q))]; omega
      · rw [if_neg c0, if_pos c1, if_neg (fun q => c0 (e0.2 q)), if_pos (e1.1 c1)]; omega
      · rw [if_neg c0, if_neg c1, if_neg (fun q => c0 (e0.2 q)), if_neg (fun q => c1 (e1.2 q))]; omega
def gain (l : List S36) (u : Nat) : List Stp → Int
  | [] => 0
  | x :: P => dlt l u x + gain l u P
theorem apply_ok {n : Nat} {l : List S36} {m : Int} (hm0 : 0 < m) : ∀ (P : List Stp) (al : List Int), Net n l al → P.Pairwise (fun x y => x.1 ≠ y.1) → (∀ x ∈ P, x.1 < l.length ∧ m ≤ room l al x) →
    ∃ al', gApply m (P.map encS) al = some al' ∧ xApp m (P.map encI) al = some al' ∧ Net n l al' ∧ ∀ u : Nat, netAt (u : Int) l al' = netAt (u : Int) l al + m * gain l u P := by
  intro P
  induction P with
  | nil => intro al h _ _; exact ⟨al, rfl, rfl, h, fun u => by simp [gain]⟩
  | cons x P ih =>
    intro al h hp hx
    obtain ⟨h1, h2⟩ := hx x (by simp)
    obtain ⟨q1, q2, q3⟩ := step_net h h1 hm0 h2
    obtain ⟨p1, p2⟩ := List.pairwise_cons.1 hp
    obtain ⟨al', e1, e2, h3, h4⟩ := ih (al.set x.1 (amtSet al m x)) q1 p2 (fun y hy => by
      have := hx y (by simp [hy])
      exact ⟨this.1, by rw [q2 y (fun e => p1 y hy e.symm)]; exact this.2⟩)
    have hb := h.room_bd h1
    have hal := h.al x.1 h1
    change 0 ≤ al.getD x.1 0 ∧ al.getD x.1 0 ≤ (arc l x.1).f2 at hal
    have ho := arc_ok h.ok h1
    unfold okArc at ho
    have hlen := h.len
    have hl := h.hl
    have hx24 : x.1 ≤ 1024 := by omega
    have w1 : wrap64 (al.getD x.1 0 - m) = al.getD x.1 0 - m := wr0 (by omega) (by omega)
    have w2 : wrap64 (al.getD x.1 0 + m) = al.getD x.1 0 + m := wr0 (by omega) (by omega)
    refine ⟨al', ?_, ?_, h3, fun u => ?_⟩
    · simp only [List.map_cons, gApply]
      rw [if_pos ⟨by simp [encS], by simp only [encS]; omega⟩]
      simp only [encS, rd_nat, w1, w2, Int.toNat_natCast]
      exact e1
    · simp only [List.map_cons, xApp]
      rw [encI_half hx24, encI_mod hx24, if_pos ⟨by omega, by omega⟩]
      simp only [rd_nat, w1, w2, Int.toNat_natCast]
      rw [← e2]
      congr 2
      unfold amtSet
      by_cases c : x.2 = true
      · simp [c]
      · simp [c]
    · rw [h4 u, q3 u]
      simp only [gain]
      rw [Int.mul_add]; omega

/-! ### chains -/
def Chain (l : List S36) (al : List Int) (s : Nat) : Nat → List Stp → Prop
  | v, [] => v = s
  | v, x :: P => v ≠ s ∧ x.1 < l.length ∧ toV l x = v ∧ 0 < room l al x ∧ Chain l al s (fromV l x) P
theorem chain_gain {l : List S36} {al : List Int} {s : Nat} (u : Nat) : ∀ (P : List Stp) (v : Nat), Chain l al s v P → gain l u P = (if s = u then 1 else 0) - (if v = u then 1 else 0) := by
  intro P
  induction P with
  | nil => intro v h; obtain rfl : v = s := h; simp [gain]
  | cons x P ih =>
    intro v h
    obtain ⟨_, _, h3, _, h5⟩ := h
    simp only [gain, ih _ h5, dlt, h3]
    omega
theorem chain_mem {l : List S36} {al : List Int} {s : Nat} : ∀ (P : List Stp) (v : Nat), Chain l al s v P → ∀ x ∈ P, x.1 < l.length ∧ 0 < room l al x := by
  intro P
  induction P with
  | nil => intro v _ x hx; simp at hx
  | cons y P ih =>
    intro v h x hx
    obtain ⟨_, h2, _, h4, h5⟩ := h
    rcases List.mem_cons.1 hx with rfl | hx
    · exact ⟨h2, h4⟩
    · exact ih _ h5 x hx
theorem same_arc {l : List S36} {x y : Stp} (h : x.1 = y.1) : (toV l x = toV l y ∧ fromV l x = fromV l y) ∨ (toV l x = fromV l y ∧ fromV l x = toV l y) := by
  obtain ⟨i, b⟩ := x
  obtain ⟨j, c⟩ := y
  obtain rfl : i = j := h
  cases b <;> cases c <;> simp [toV, fromV]
/-- what a chain's steps look like, and that no arc comes twice -/
structure Good (st : ASt) (l : List S36) (al : List Int) (s : Nat) (idx v : Nat) (P : List Stp) : Prop where
  chain : Chain l al s v P
  arcs : P.Pairwise (fun x y => x.1 ≠ y.1)
  ind : ∀ x ∈ P, ∃ i j : Nat, j < i ∧ i ≤ idx ∧ st.D[i]? = some (toV l x) ∧ st.D[j]? = some (fromV l x)
  len : P.length ≤ idx
theorem good_cons {n : Nat} {l : List S36} {al : List Int} {s : Nat} {st : ASt} (hi : AInv n l al s st) {idx v j : Nat} {P : List Stp} (hv : st.D[idx]? = some v) (hne : v ≠ s) (hx : (st.par v).1 < l.length) (hto : toV l (st.par v) = v) (hr : 0 < room l al (st.par v)) (hj : j < idx)
    (hf : st.D[j]? = some (fromV l (st.par v))) (g : Good st l al s j (fromV l (st.par v)) P) : Good st l al s idx v (st.par v :: P) := by
  refine ⟨⟨hne, hx, hto, hr, g.chain⟩, List.pairwise_cons.2 ⟨fun y hy e => ?_, g.arcs⟩, fun y hy => ?_, by have := g.len; simp; omega⟩
  · obtain ⟨i, j2, h1, h2, h3, h4⟩ := g.ind y hy
    have hil := (List.getElem?_eq_some_iff.1 hv).1
    rcases same_arc (l := l) e with ⟨e1, _⟩ | ⟨e1, e2⟩
    · rw [← e1, hto] at h3
      have := (List.getElem?_inj hil hi.nodup).1 (hv.trans h3.symm)
      omega
    · rw [← e1, hto] at h4
      have := (List.getElem?_inj hil hi.nodup).1 (hv.trans h4.symm)
      omega
  · rcases List.mem_cons.1 hy with rfl | hy
    · exact ⟨idx, j, hj, Nat.le_refl _, by rw [hto]; exact hv, hf⟩
    · obtain ⟨i, j2, h1, h2, h3, h4⟩ := g.ind y hy
      exact ⟨i, j2, h1, by omega, h3, h4⟩
theorem rd86_nat (l : List S86) (i : Nat) : rd_T86 l (i : Int) = l.getD i z86 := by simp [rd_T86]
def gAmt (l : List S36) (al : List Int) (m : Int) (x : Stp) : Int := if m < 0 ∨ room l al x < m then room l al x else m
theorem gAmt_fold (l : List S36) (al : List Int) : ∀ (P : List Stp) (m : Int), (m < 0 ∨ 0 < m) → (∀ x ∈ P, 0 < room l al x) →
    (0 < m → 0 < P.foldl (gAmt l al) m ∧ P.foldl (gAmt l al) m ≤ m) ∧ (P ≠ [] → 0 < P.foldl (gAmt l al) m) ∧ ∀ x ∈ P, P.foldl (gAmt l al) m ≤ room l al x := by
  intro P
  induction P with
  | nil => intro m _ _; exact ⟨fun h => ⟨h, Int.le_refl _⟩, fun h => absurd rfl h, by simp⟩
  | cons x P ih =>
    intro m hm hx
    have h0 := hx x (by simp)
    have e : (x :: P).foldl (gAmt l al) m = P.foldl (gAmt l al) (gAmt l al m x) := rfl
    rw [e]
    have h1 : 0 < gAmt l al m x ∧ gAmt l al m x ≤ room l al x ∧ (0 < m → gAmt l al m x ≤ m) := by
      unfold gAmt
      split <;> refine ⟨?_, ?_, ?_⟩ <;> omega
    obtain ⟨q1, _, q3⟩ := ih (gAmt l al m x) (.inr h1.1) (fun y hy => hx y (by simp [hy]))
    obtain ⟨q4, q5⟩ := q1 h1.1
    refine ⟨fun h => ⟨q4, ?_⟩, fun _ => q4, fun y hy => ?_⟩
    · have := h1.2.2 h; omega
    · rcases List.mem_cons.1 hy with rfl | hy
      · omega
      · exact q3 y hy
theorem gPath_ok {n s : Nat} {l : List S36} {al : List Int} (h : Net n l al) {st : ASt} (hi : AInv n l al s st) {seen : List Bool} {how : List S86} (hr : SRel n s st seen how) (idx : Nat) : ∀ v, st.D[idx]? = some v →
    ∃ P, Good st l al s idx v P ∧ ∀ (f : Nat) (amt : Int) (p : List S86), idx < f → p.length + idx ≤ 1000 → gPath l al how (s : Int) f (v : Int) amt p = some (P.foldl (gAmt l al) amt, p ++ P.map encS) := by
  induction idx using Nat.strongRecOn with
  | ind idx ih =>
    intro v hv
    by_cases c : v = s
    · subst c
      refine ⟨[], ⟨rfl, by simp, by simp, by simp⟩, fun f amt p hf hp => ?_⟩
      obtain ⟨f, rfl⟩ : ∃ g, f = g + 1 := ⟨f - 1, by omega⟩
      simp [gPath]
    · obtain ⟨h1, h2, h3, j, hj, hfj⟩ := hi.par idx v hv c
      obtain ⟨P, g, hP⟩ := ih j hj _ hfj
      refine ⟨st.par v :: P, good_cons hi hv c h1 h2 h3 hj hfj g, fun f amt p hf hp => ?_⟩
      obtain ⟨f, rfl⟩ : ∃ g, f = g + 1 := ⟨f - 1, by omega⟩
      have hvD : v ∈ st.D := List.mem_of_getElem? hv
      have hvn := hi.lt v hvD
      have e1 : rd_T86 how (v : Int) = encS (st.par v) := by rw [rd86_nat]; exact hr.how v hvD c
      have hlen := h.len
      simp only [gPath, e1]
      rw [if_neg (by omega), if_pos ⟨by omega, by have := hr.l2; omega, by simp [encS], by simp only [encS]; omega, by simp only [encS]; omega, by omega⟩, srRoom_eq h h1]
      have e2 : (if (encS (st.par v)).f1 = true then (rd_T36 l (encS (st.par v)).f0).f1 else (rd_T36 l (encS (st.par v)).f0).f0) = ((fromV l (st.par v) : Nat) : Int) := by
        rw [fromV_int h.ok h1]
        simp only [encS, rd36_nat]
        rfl
      rw [e2, hP f _ _ (by omega) (by simp; omega)]
      simp only [List.foldl_cons, List.map_cons, List.append_assoc, List.cons_append, List.nil_append]
      rfl
/-- a flow that no path makes greater, and the vertices that can still be reached -/
structure Best (n : Nat) (l : List S36) (s t : Nat) (al : List Int) (sd : List Bool) : Prop where
  flow : isFlow n l (s : Int) (t : Int) al
  st : ∃ st, Found n s l al st ∧ t ∉ st.D ∧ sd.length = n ∧ ∀ v, v < n → (sd.getD v false = true ↔ v ∈ st.D)
theorem isFlow_net {n : Nat} {l : List S36} {s t : Int} {al : List Int} (h : chk (n : Int) l = 0) (hf : isFlow n l s t al) : Net n l al := by
  obtain ⟨h1, h2, h3, h4⟩ := chk_ok h
  exact ⟨by omega, h3, h4, hf.1, hf.2.1⟩
theorem augment {n : Nat} {l : List S36} {s t : Nat} {al : List Int} (h : chk (n : Int) l = 0) (hst : s ≠ t) (hf : isFlow n l (s : Int) (t : Int) al) {P : List Stp} (hc : Chain l al s t P) (ha : P.Pairwise (fun x y => x.1 ≠ y.1)) {m : Int} (hm0 : 0 < m) (hm : ∀ x ∈ P, m ≤ room l al x) :
    ∃ al', gApply m (P.map encS) al = some al' ∧ xApp m (P.map encI) al = some al' ∧ isFlow n l (s : Int) (t : Int) al' ∧ netAt (s : Int) l al' = netAt (s : Int) l al + m := by
  have hN := isFlow_net h hf
  obtain ⟨al', e1, e2, h3, h4⟩ := apply_ok hm0 P al hN ha (fun x hx => ⟨(chain_mem P t hc x hx).1, hm x hx⟩)
  refine ⟨al', e1, e2, ⟨h3.len, h3.al, fun u hu hus hut => ?_⟩, ?_⟩
  · rw [h4 u, chain_gain u P t hc, if_neg (by omega), if_neg (by omega), hf.2.2 u hu hus hut]; simp
  · rw [h4 s, chain_gain s P t hc, if_pos rfl, if_neg (Ne.symm hst)]; simp
theorem gMain_step {n : Nat} {l : List S36} {s t : Nat} (he : endsOf (n : Int) l (s : Int) (t : Int) = 0) {at_ : List (List S86)} (hat : at_.length = n) (hrows : ∀ v, v < n → at_.getD v [] = (adjTo l l.length v).map encS) (al : List Int) (k : Nat)
    (hf : isFlow n l (s : Int) (t : Int) al) (hk : n + 2 < k)
    (ih : ∀ al', isFlow n l (s : Int) (t : Int) al' → netAt (s : Int) l al < netAt (s : Int) l al' → ∃ al2 sd, gMain (n : Int) l at_ (s : Int) (t : Int) (k - 1) al' (netAt (s : Int) l al') = some (netAt (s : Int) l al2, al2, sd) ∧ Best n l s t al2 sd) :
    ∃ al' sd, gMain (n : Int) l at_ (s : Int) (t : Int) k al (netAt (s : Int) l al) = some (netAt (s : Int) l al', al', sd) ∧ Best n l s t al' sd := by
  obtain ⟨hc, hs0, hs1, ht0, ht1, hst⟩ := endsOf_ok he
  have hst' : s ≠ t := by omega
  have hN := isFlow_net hc hf
  obtain ⟨k, rfl⟩ : ∃ g, k = g + 1 := ⟨k - 1, by omega⟩
  simp only [Nat.add_sub_cancel] at ih
  obtain ⟨seen, how, st, e1, hfd, hr⟩ := search_ok hN (show s < n by omega) hat hrows (show n < k by omega)
  have ht : t < n := by omega
  simp only [gMain, e1, Option.bind_some]
  rw [if_pos ⟨by omega, by have := hr.l1; omega⟩, rdOf_nat]
  by_cases c : t ∈ st.D
  · rw [if_pos ((hr.yes t ht).2 c)]
    obtain ⟨idx, hidx⟩ := List.getElem?_of_mem c
    have hil := (List.getElem?_eq_some_iff.1 hidx).1
    have hDn := nodup_len hfd.inv.nodup hfd.inv.lt
    have hn := hN.hn
    obtain ⟨P, g, hP⟩ := gPath_ok hN hfd.inv hr idx t hidx
    rw [hP k (-1) [] (by omega) (by simp; omega)]
    simp only [Option.bind_some, List.nil_append]
    have hmem := chain_mem P t g.chain
    have hne : P ≠ [] := by
      rintro rfl
      exact hst' (g.chain : t = s).symm
    obtain ⟨_, q2, q3⟩ := gAmt_fold l al P (-1) (.inl (by omega)) (fun x hx => (hmem x hx).2)
    obtain ⟨al', a1, _, a3, a4⟩ := augment hc hst' hf g.chain g.arcs (q2 hne) q3
    rw [a1]
    simp only [Option.bind_some]
    have hb := netAt_bound hc a3 (s : Int)
    rw [← a4, wr0 (by omega) (by omega)]
    exact ih al' a3 (by have := q2 hne; omega)
  · rw [if_neg (fun q => c ((hr.yes t ht).1 q))]
    exact ⟨al, seen, rfl, hf, st, hfd, c, hr.l1, hr.yes⟩
theorem zero_flow {n : Nat} {l : List S36} (h : okArcs (n : Int) l) (s t : Int) : isFlow n l s t (List.replicate l.length 0) ∧ ∀ u, netAt u l (List.replicate l.length 0) = 0 := by
  have hz : ∀ j, (List.replicate l.length (0 : Int)).getD j 0 = 0 := fun j => by
    rw [List.getD_eq_getElem?_getD, List.getElem?_replicate]; split <;> rfl
  have hnet : ∀ (u : Int) k, netTo u l (List.replicate l.length 0) k = 0 := fun u k => by
    induction k with
    | zero => rfl
    | succ k ih => simp only [netTo, ih, hz, flowAt]; split <;> split <;> rfl
  refine ⟨⟨by simp, fun j hj => ?_, fun u _ _ _ => hnet _ _⟩, fun u => hnet _ _⟩
  have := arc_ok h hj
  unfold okArc arc at this
  rw [hz]; omega
theorem rows_zero {α : Type} (n : Nat) (l : List S36) (enc : Stp → α) : ∀ v, v < n → (List.replicate n ([] : List α)).getD v [] = (adjTo l 0 v).map enc := by
  intro v hv
  rw [List.getD_eq_getElem?_getD, List.getElem?_replicate, if_pos hv]; rfl
theorem gMain_ok {n : Nat} {l : List S36} {s t : Nat} (he : endsOf (n : Int) l (s : Int) (t : Int) = 0) {at_ : List (List S86)} (hat : at_.length = n) (hrows : ∀ v, v < n → at_.getD v [] = (adjTo l l.length v).map encS) : ∀ (N : Nat) (al : List Int) (k : Nat),
    isFlow n l (s : Int) (t : Int) al → 1125899906842624 - netAt (s : Int) l al ≤ (N : Int) → N + n + 3 ≤ k →
    ∃ al' sd, gMain (n : Int) l at_ (s : Int) (t : Int) k al (netAt (s : Int) l al) = some (netAt (s : Int) l al', al', sd) ∧ Best n l s t al' sd := by
  obtain ⟨hc, hs0, hs1, ht0, ht1, hst⟩ := endsOf_ok he
  have hst' : s ≠ t := by omega
  intro N
  induction N with
  | zero => 
    intro al k hf hN hk
    exact gMain_step he hat hrows al k hf (by omega) (fun al' hf' hlt => by have := (netAt_bound hc hf' (s : Int)).2; omega)
  | succ N ih =>
    intro al k hf hN hk
    exact gMain_step he hat hrows al k hf (by omega) (fun al' hf' hlt => ih al' (k - 1) hf' (by omega) (by omega))
theorem greatest_ok {n : Nat} {l : List S36} {s t : Nat} (he : endsOf (n : Int) l (s : Int) (t : Int) = 0) : ∃ al sd, Ev (fun k => flow_greatest.f k (n : Int) l (s : Int) (t : Int)) (netAt (s : Int) l al, al, sd) ∧ Best n l s t al sd := by
  obtain ⟨hc, hs0, hs1, ht0, ht1, hst⟩ := endsOf_ok he
  obtain ⟨h1, h2, h3, h4⟩ := chk_ok hc
  obtain ⟨z1, z2⟩ := zero_flow h4 (s : Int) (t : Int)
  obtain ⟨rows, r1, r2, r3⟩ := pAt_ok encS h4 h3 l.length 0 (List.replicate n []) (by omega) (by simp) (rows_zero n l encS)
  rw [List.drop_zero, ← gAt_pAt] at r1
  obtain ⟨al, sd, e, hb⟩ := gMain_ok he r2 r3 1125899906842624 _ (1125899906842624 + n + 3) z1 (by rw [z2]; decide) (Nat.le_refl _)
  rw [z2] at e
  refine ⟨al, sd, ⟨1125899906842624 + n + 3, fun k hk => ?_⟩, hb⟩
  have hm : ∀ d, gMain (n : Int) l rows (s : Int) (t : Int) (1125899906842624 + n + 3 + d) (List.replicate l.length 0) 0 = some (netAt (s : Int) l al, al, sd) := by
    intro d
    induction d with
    | zero => exact e
    | succ d ih => exact gMain_mono _ _ _ _ _ _ _ _ _ ih
  show flow_greatest.f k (n : Int) l (s : Int) (t : Int) = _
  unfold flow_greatest.f
  rw [if_pos ⟨by omega, by omega, by omega⟩]
  have e1 : ((n : Int)).toNat = n := rfl
  rw [e1, r1]
  simp only [Option.bind_some]
  have := hm (k - (1125899906842624 + n + 3))
  rwa [show 1125899906842624 + n + 3 + (k - (1125899906842624 + n + 3)) = k by omega] at this
/-- what a set that no open step leaves does -/
def Shut (l : List S36) (al : List Int) (S : Nat → Prop) : Prop := ∀ x : Stp, x.1 < l.length → S (fromV l x) → 0 < room l al x → S (toV l x)
theorem xTo_shut {side : List Bool} {l : List S36} {al : List Int} {n : Nat} (h : Net n l al) (hS : Shut l al (fun v => side.getD v false = true)) (i : Nat) (hi : i ≤ l.length) : xTo (sideFn side) l al i = cutTo side l i := by
  induction i with
  | zero => rfl
  | succ i ih =>
    have hil : i < l.length := by omega
    have ho := arc_ok h.ok hil
    have ha := h.al i hil
    have s1 := hS (i, false) hil
    have s2 := hS (i, true) hil
    rw [xTo, cutTo, ih (by omega)]
    congr 1
    change _ ∧ al.getD i 0 ≤ (arc l i).f2 at ha
    change xAt (sideFn side) (arc l i) (al.getD i 0) = cutOf side (arc l i)
    simp only [fromV, toV, room, Bool.false_eq_true, if_false, if_true] at s1 s2
    generalize arc l i = a at *
    unfold xAt cutOf sideFn
    cases c1 : side.getD a.f0.toNat false <;> cases c2 : side.getD a.f1.toNat false <;> simp only [c1, c2, Bool.false_eq_true, if_false, if_true, and_true, and_false, true_and, false_and, reduceCtorEq, imp_false, true_implies, false_implies, forall_const] at * <;> omega
theorem shut_of_eq {side : List Bool} {l : List S36} {al : List Int} {n : Nat} (h : Net n l al) (i : Nat) (hi : i ≤ l.length) (e : xTo (sideFn side) l al i = cutTo side l i) : ∀ x : Stp, x.1 < i → side.getD (fromV l x) false = true → 0 < room l al x → side.getD (toV l x) false = true := by
  induction i with
  | zero => intro x hx; omega
  | succ i ih =>
    have hil : i < l.length := by omega
    have ho := arc_ok h.ok hil
    unfold okArc at ho
    have ha := h.al i hil
    have hle := xTo_le (side := side) h.ok h.al i (by omega)
    change _ ∧ al.getD i 0 ≤ (arc l i).f2 at ha
    rw [xTo, cutTo] at e
    change xTo (sideFn side) l al i + xAt (sideFn side) (arc l i) (al.getD i 0) = cutTo side l i + cutOf side (arc l i) at e
    have hx : xAt (sideFn side) (arc l i) (al.getD i 0) ≤ cutOf side (arc l i) := by
      generalize al.getD i 0 = y at ha ⊢
      unfold xAt cutOf sideFn
      cases c1 : side.getD (arc l i).f0.toNat false <;> cases c2 : side.getD (arc l i).f1.toNat false <;> simp <;> omega
    intro x hxi hf hr
    by_cases c : x.1 < i
    · exact ih (by omega) (by omega) x c hf hr
    · obtain ⟨j, b⟩ := x
      obtain rfl : j = i := by simp at hxi c; omega
      have e2 : xAt (sideFn side) (arc l j) (al.getD j 0) = cutOf side (arc l j) := by omega
      unfold xAt cutOf sideFn at e2
      simp only [fromV, toV, room] at hf hr ⊢
      generalize al.getD j 0 = y at ha e2 hr
      cases b with
      | true =>
        simp only [if_true] at hf hr ⊢
        cases c1 : side.getD (arc l j).f0.toNat false with
        | true => rfl
        | false => rw [c1, hf] at e2; simp at e2; omega
      | false =>
        simp only [Bool.false_eq_true, if_false] at hf hr ⊢
        cases c1 : side.getD (arc l j).f1.toNat false with
        | true => rfl
        | false => rw [c1, hf] at e2; simp at e2; omega
theorem best_shut {n : Nat} {l : List S36} {s t : Nat} {al : List Int} {sd : List Bool} (hc : chk (n : Int) l = 0) (h : Best n l s t al sd) : Shut l al (fun v => sd.getD v false = true) := by
  obtain ⟨hf, st, hfd, ht, hl, hv⟩ := h
  obtain ⟨_, _, _, h4⟩ := chk_ok hc
  intro x hx h1 h2
  exact (hv _ (toV_lt h4 hx)).2 (hfd.closed x hx ((hv _ (fromV_lt h4 hx)).1 h1) h2)
theorem best_cut {n : Nat} {l : List S36} {s t : Nat} {al : List Int} {sd : List Bool} (he : endsOf (n : Int) l (s : Int) (t : Int) = 0) (h : Best n l s t al sd) : isCut n (s : Int) (t : Int) sd := by
  obtain ⟨hc, hs0, hs1, ht0, ht1, hst⟩ := endsOf_ok he
  obtain ⟨hf, st, hfd, ht, hl, hv⟩ := h
  refine ⟨hl, (hv s (by omega)).2 (List.mem_of_getElem? hfd.inv.head), ?_⟩
  have := hv t (by omega)
  cases q : sd.getD ((t : Int)).toNat false with
  | false => rfl
  | true => exact absurd (this.1 q) ht
theorem best_val {n : Nat} {l : List S36} {s t : Nat} {al : List Int} {sd : List Bool} (he : endsOf (n : Int) l (s : Int) (t : Int) = 0) (h : Best n l s t al sd) : netAt (s : Int) l al = cut sd l := by
  obtain ⟨hc, hs0, hs1, ht0, ht1, hst⟩ := endsOf_ok he
  obtain ⟨_, _, _, h4⟩ := chk_ok hc
  have hcut := best_cut he h
  have e1 := flow_across (side := sideFn sd) h4 h.flow (show s < n by omega) (show t < n by omega) (by omega) hcut.2.1
  have e2 : sideFn sd t = false := hcut.2.2
  rw [e2, if_neg (by decide)] at e1
  have e3 := xTo_shut (isFlow_net hc h.flow) (best_shut hc h) l.length (Nat.le_refl _)
  rw [cutTo_all] at e3
  omega
theorem best_cert {n : Nat} {l : List S36} {s t : Nat} {al : List Int} {sd : List Bool} (he : endsOf (n : Int) l (s : Int) (t : Int) = 0) (h : Best n l s t al sd) : isCert n l (s : Int) (t : Int) (netAt (s : Int) l al) al sd :=
  ⟨h.flow, best_cut he h, rfl, (best_val he h).symm⟩
def setCap (c : Int) (m : List S36) (i : Int) : List S36 := m.set i.toNat ⟨(rd_T36 m i).f0, (rd_T36 m i).f1, c⟩
theorem arc_set (m : List S36) (j : Nat) (a : S36) (i : Nat) : arc (m.set j a) i = if j = i ∧ j < m.length then a else arc m i := by
  unfold arc
  simp only [List.getD_eq_getElem?_getD, List.getElem?_set]
  by_cases c : j = i
  · subst c
    by_cases c2 : j < m.length
    · simp [c2]
    · simp [c2]
  · simp [c]
theorem setCap_arc (c : Int) (m : List S36) (j : Nat) (i : Nat) : arc (setCap c m (j : Int)) i = if j = i ∧ j < m.length then ⟨(arc m i).f0, (arc m i).f1, c⟩ else arc m i := by
  unfold setCap
  rw [show ((j : Int)).toNat = j from rfl, arc_set, rd36_nat]
  split
  · rename_i h; obtain ⟨rfl, h⟩ := h; rfl
  · rfl
theorem Max_ev {n : Nat} {l : List S36} {s t : Nat} (he : endsOf (n : Int) l (s : Int) (t : Int) = 0) : ∃ al sd, Ev (fun k => flow_Max.f k (n : Int) l (s : Int) (t : Int)) (netAt (s : Int) l al, al, sd, 0) ∧ Best n l s t al sd := by
  obtain ⟨al, sd, h1, h2⟩ := greatest_ok he
  refine ⟨al, sd, ?_, h2⟩
  unfold flow_Max.f
  refine Ev.bind (ends_ev _ l _ _) ?_
  rw [he]
  simp only [if_true]
  exact Ev.bind h1 (Ev.same (fun _ => rfl))
theorem Max_no {v : Int} {l : List S36} {s t : Int} (he : endsOf v l s t ≠ 0) : Ev (fun k => flow_Max.f k v l s t) (0, [], [], endsOf v l s t) := by
  unfold flow_Max.f
  refine Ev.bind (ends_ev _ l _ _) ?_
  simp only [if_neg he]
  exact Ev.same (fun _ => rfl)
def frmV (l : List S36) (i : Nat) : Nat := (arc l i).f0.toNat
def towV (l : List S36) (i : Nat) : Nat := (arc l i).f1.toNat
theorem frmV_int {n : Nat} {l : List S36} (h : okArcs (n : Int) l) {i : Nat} (hi : i < l.length) : (arc l i).f0 = ((frmV l i : Nat) : Int) ∧ frmV l i < n := by
  have := arc_ok h hi; unfold okArc at this; unfold frmV; omega
theorem towV_int {n : Nat} {l : List S36} (h : okArcs (n : Int) l) {i : Nat} (hi : i < l.length) : (arc l i).f1 = ((towV l i : Nat) : Int) ∧ towV l i < n := by
  have := arc_ok h hi; unfold okArc at this; unfold towV; omega
/-- the arcs among the first i that leave v -/
def outTo (l : List S36) (i v : Nat) : List Nat := (List.range i).filter fun j => decide (frmV l j = v)
theorem outTo_succ (l : List S36) (i v : Nat) : outTo l (i + 1) v = outTo l i v ++ (if frmV l i = v then [i] else []) := by
  unfold outTo
  rw [List.range_succ, List.filter_append]
  congr 1
  by_cases c : frmV l i = v <;> simp [c]
theorem outTo_mem {l : List S36} {i v j : Nat} : j ∈ outTo l i v ↔ j < i ∧ frmV l j = v := by
  unfold outTo; simp
theorem outTo_len (l : List S36) (i v : Nat) : (outTo l i v).length ≤ i := by
  unfold outTo
  have := List.length_filter_le (fun j => decide (frmV l j = v)) (List.range i)
  simpa using this
theorem rtAt_ok {n : Nat} {l : List S36} (hok : okArcs (n : Int) l) (hl : l.length ≤ 1024) (d : Nat) : ∀ (i : Nat) (rows : List (List Int)), i + d = l.length → rows.length = n → (∀ v, v < n → rows.getD v [] = (outTo l i v).map Int.ofNat) →
    ∃ rows', rtAt i (l.drop i) rows = some rows' ∧ rows'.length = n ∧ ∀ v, v < n → rows'.getD v [] = (outTo l l.length v).map Int.ofNat := by
  induction d with
  | zero =>
    intro i rows hi hn h
    rw [List.drop_of_length_le (by omega)]
    obtain rfl : i = l.length := by omega
    exact ⟨rows, rfl, hn, h⟩
  | succ d ih =>
    intro i rows hi hn h
    have hil : i < l.length := by omega
    rw [getD_drop z36 l i hil]
    obtain ⟨e0, h0⟩ := frmV_int hok hil
    change (l.getD i z36).f0 = _ at e0
    rw [rtAt, e0]
    unfold rtPut
    have hrow := h _ h0
    have hlen := outTo_len l i (frmV l i)
    rw [show ((frmV l i : Nat) : Int).toNat = frmV l i from rfl, if_pos ⟨by omega, by omega, by rw [hrow, List.length_map]; omega⟩, Option.bind_some]
    refine ih (i + 1) _ (by omega) (by rw [List.length_set]; exact hn) (fun v hv => ?_)
    rw [outTo_succ, List.getD_eq_getElem?_getD, List.getElem?_set]
    by_cases c : frmV l i = v
    · subst c
      rw [if_pos rfl, if_pos (by omega), if_pos rfl, List.map_append, ← hrow]; rfl
    · rw [if_neg c, if_neg c, List.append_nil, ← h v hv, List.getD_eq_getElem?_getD]
theorem rtNext_ok {left : List Int} : ∀ (row : List Nat), (∀ j ∈ row, j < left.length) →
    ∃ r, rtNext left (row.map Int.ofNat) = some r ∧ ((r = -1 ∧ ∀ j ∈ row, ¬ 0 < left.getD j 0) ∨ ∃ j : Nat, r = (j : Int) ∧ j ∈ row ∧ 0 < left.getD j 0) := by
  intro row
  induction row with
  | nil => intro _; exact ⟨-1, rfl, .inl ⟨rfl, fun j hj => by simp at hj⟩⟩
  | cons i row ih =>
    intro h
    rw [List.map_cons, rtNext]
    have hi := h i (by simp)
    change ∃ r, (if 0 ≤ ((i : Nat) : Int) ∧ ((i : Nat) : Int) < (left.length : Int) then (if rd left (i : Int) > 0 then some ((i : Nat) : Int) else rtNext left (row.map Int.ofNat)) else none) = some r ∧ _
    rw [if_pos ⟨by omega, by omega⟩, rd_nat]
    by_cases c : left.getD i 0 > 0
    · rw [if_pos c]; exact ⟨_, rfl, .inr ⟨i, rfl, by simp, c⟩⟩
    · rw [if_neg c]
      obtain ⟨r, h1, h2⟩ := ih (fun j hj => h j (by simp [hj]))
      refine ⟨r, h1, ?_⟩
      rcases h2 with ⟨rfl, h2⟩ | ⟨j, h3, h4, h5⟩
      · refine .inl ⟨rfl, fun j hj => ?_⟩
        rcases List.mem_cons.1 hj with rfl | hj
        · exact c
        · exact h2 j hj
      · exact .inr ⟨j, h3, by simp [h4], h5⟩
/-- on arc i flow is left -/
def LeftOn (l : List S36) (left : List Int) (i : Nat) : Prop := i < l.length ∧ 0 < left.getD i 0
/-- consecutive arcs -/
def Linked (l : List S36) : List Nat → Prop
  | [] => True
  | [_] => True
  | i :: j :: w => towV l i = frmV l j ∧ Linked l (j :: w)
/-- where a walk ends -/
def endV (l : List S36) (v : Nat) (w : List Nat) : Nat := match w.getLast? with | none => v | some i => towV l i
theorem linked_snoc {l : List S36} : ∀ {w : List Nat} {i v : Nat}, Linked l w → endV l v w = frmV l i → (w ≠ [] → True) → Linked l (w ++ [i])
  | [], i, v, _, _, _ => trivial
  | [a], i, v, _, h, _ => ⟨h, trivial⟩
  | a :: b :: w, i, v, h, he, _ => by
    refine ⟨h.1, ?_⟩
    have := linked_snoc (i := i) (v := v) h.2 (by
      unfold endV at he ⊢
      rw [List.getLast?_cons_cons] at he; exact he) (fun _ => trivial)
    simpa using this
theorem linked_drop {l : List S36} : ∀ {w : List Nat} (k : Nat), Linked l w → Linked l (w.drop k)
  | [], k, _ => by simp [Linked]
  | w, 0, h => by simpa using h
  | [a], k + 1, _ => by simp [Linked]
  | a :: b :: w, k + 1, h => by
    rw [List.drop_succ_cons]
    exact linked_drop k h.2
theorem linked_get {l : List S36} : ∀ {w : List Nat} (j : Nat) (h : j + 1 < w.length), Linked l w → towV l (w[j]) = frmV l (w[j + 1])
  | [], j, h, _ => by simp at h
  | [a], j, h, _ => by simp at h
  | a :: b :: w, 0, h, hl => hl.1
  | a :: b :: w, j + 1, h, hl => by
    have := linked_get (w := b :: w) j (by simp at h ⊢; omega) hl.2
    simpa using this
theorem endV_cons (l : List S36) (v0 a : Nat) (w : List Nat) : endV l v0 (a :: w) = endV l (towV l a) w := by
  unfold endV
  cases w with
  | nil => rfl
  | cons b w => rw [List.getLast?_cons_cons]; rfl
theorem endV_snoc (l : List S36) (v0 i : Nat) (w : List Nat) : endV l v0 (w ++ [i]) = towV l i := by
  unfold endV; rw [List.getLast?_append]; simp
theorem froms_eq {l : List S36} : ∀ (w : List Nat) (v0 i : Nat), Linked l w → (∀ a, w.head? = some a → frmV l a = v0) → frmV l i = endV l v0 w → (w ++ [i]).map (frmV l) = v0 :: w.map (towV l)
  | [], v0, i, _, _, h => by simp only [List.nil_append, List.map_cons, List.map_nil, h]; rfl
  | a :: w, v0, i, hl, hh, h => by
    have h1 : frmV l a = v0 := hh a rfl
    rw [endV_cons] at h
    have := froms_eq w (towV l a) i (by
      cases w with
      | nil => trivial
      | cons b w => exact hl.2) (fun b hb => by
        cases w with
        | nil => simp at hb
        | cons c w =>
          obtain rfl := Option.some.inj hb
          exact hl.1.symm) h
    rw [List.cons_append, List.map_cons, this, h1, List.map_cons]
structure WInv (n : Nat) (l : List S36) (left : List Int) (v0 v : Nat) (w : List Nat) (ml : List (Int × Int)) : Prop where
  arcs : ∀ i ∈ w, LeftOn l left i
  link : Linked l w
  head : ∀ a, w.head? = some a → frmV l a = v0
  cur : endV l v0 w = v
  lt : ∀ u ∈ v0 :: w.map (towV l), u < n
  nodup : (v0 :: w.map (towV l)).Nodup
  yes : ∀ p u : Nat, (v0 :: w.map (towV l))[p]? = some u → mget ml (u : Int) = some (p : Int)
  no : ∀ u : Nat, u ∉ v0 :: w.map (towV l) → mget ml (u : Int) = none
  mlen : ml.length = w.length + 1
structure RSpec (l : List S36) (left : List Int) (v0 t : Nat) (value : Int) (vE : Nat) (w : List Nat) : Prop where
  ne : w ≠ []
  arcs : ∀ i ∈ w, LeftOn l left i
  link : Linked l w
  nodup : (w.map (frmV l)).Nodup
  last : ∀ i, w.getLast? = some i → towV l i = vE
  kind : ∃ i, w.head? = some i ∧ (frmV l i = vE ∨ (frmV l i = v0 ∧ vE = t ∧ value > 0 ∧ t ∉ w.map (frmV l)))
theorem rtWalk_ok {n : Nat} {l : List S36} {left : List Int} {rows : List (List Int)} {v0 t : Nat} {value : Int} (hok : okArcs (n : Int) l) (hn : n ≤ 256) (hl : l.length ≤ 1024) (hlen : left.length = l.length) (hrn : rows.length = n) (hrows : ∀ v, v < n → rows.getD v [] = (outTo l l.length v).map Int.ofNat)
    (H : ∀ i, LeftOn l left i → ¬ (towV l i = t ∧ value > 0) → ∃ j, LeftOn l left j ∧ frmV l j = towV l i) (H0 : ∃ j, LeftOn l left j ∧ frmV l j = v0) (e : Nat) : ∀ (v : Nat) (w : List Nat) (ml : List (Int × Int)), WInv n l left v0 v w ml → n ≤ e + w.length → (w ≠ [] → ¬ (v = t ∧ value > 0)) →
    ∃ vE wE, RSpec l left v0 t value vE wE ∧ ∀ k, e ≤ k → rtWalk l rows left (t : Int) value k (v : Int) (w.map Int.ofNat) ml = some ((vE : Int), wE.map Int.ofNat) := by
  induction e with
  | zero =>
    intro v w ml h hw
    have := nodup_len h.nodup h.lt
    simp at this
    omega
  | succ e ih =>
    intro v w ml h hw hnt
    have hlenV := nodup_len h.nodup h.lt
    simp only [List.length_cons, List.length_map] at hlenV
    have hvV : v ∈ v0 :: w.map (towV l) := by
      have hc := h.cur
      rcases List.eq_nil_or_concat w with rfl | ⟨w', a, rfl⟩
      · simp [endV] at hc; simp [hc]
      · rw [List.concat_eq_append, endV_snoc] at hc; simp [← hc]
    have hv := h.lt v hvV
    -- an arc leads on
    have hgo : ∃ j, LeftOn l left j ∧ frmV l j = v := by
      have hc := h.cur
      rcases List.eq_nil_or_concat w with rfl | ⟨w', a, rfl⟩
      · simp [endV] at hc; rw [← hc]; exact H0
      · rw [List.concat_eq_append] at hc hnt h
        rw [endV_snoc] at hc
        rw [← hc]
        refine H a (h.arcs a (by simp)) (fun q => hnt (by simp) ?_)
        rw [← hc]; exact q
    obtain ⟨r, hr, hr2⟩ := rtNext_ok (left := left) (outTo l l.length v) (fun j hj => by have := (outTo_mem.1 hj).1; omega)
    have hr3 : ∃ j : Nat, r = (j : Int) ∧ LeftOn l left j ∧ frmV l j = v := by
      rcases hr2 with ⟨_, hno⟩ | ⟨j, h1, h2, h3⟩
      · obtain ⟨j, ⟨h1, h2⟩, h3⟩ := hgo
        exact absurd h2 (hno j (outTo_mem.2 ⟨h1, h3⟩))
      · have := outTo_mem.1 h2
        exact ⟨j, h1, ⟨this.1, h3⟩, this.2⟩
    obtain ⟨j, rfl, hj, hjv⟩ := hr3
    obtain ⟨et, ht⟩ := towV_int hok hj.1
    have hF := froms_eq w v0 j h.link h.head (by rw [hjv, h.cur])
    have hrow := hrows v hv
    have hstep : ∀ k, rtWalk l rows left (t : Int) value (k + 1) (v : Int) (w.map Int.ofNat) ml = (match mget ml ((towV l j : Nat) : Int) with
        | some at_ => if 0 ≤ at_ ∧ at_ ≤ ((w.map Int.ofNat).length : Int) + 1 then some (((towV l j : Nat) : Int), (w.map Int.ofNat ++ [(j : Int)]).drop at_.toNat) else none
        | none => if ((towV l j : Nat) : Int) = (t : Int) ∧ value > 0 then some (((towV l j : Nat) : Int), w.map Int.ofNat ++ [(j : Int)]) else rtWalk l rows left (t : Int) value k ((towV l j : Nat) : Int) (w.map Int.ofNat ++ [(j : Int)]) ((((towV l j : Nat) : Int), ((w.map Int.ofNat).length : Int) + 1) :: ml)) := by
      intro k
      have hml := h.mlen
      rw [rtWalk, if_pos ⟨by omega, by omega, by simp; omega, by omega⟩]
      rw [show ((v : Int)).toNat = v from rfl, hrow, hr, Option.bind_some]
      have e1 : (rd_T36 l (j : Int)).f1 = ((towV l j : Nat) : Int) := by rw [rd36_nat]; exact et
      simp only [e1]
      rw [if_pos ⟨by omega, by have := hj.1; omega, by omega, by omega⟩]
      rfl
    have hmapj : w.map Int.ofNat ++ [(j : Int)] = (w ++ [j]).map Int.ofNat := by simp
    have harcs : ∀ i ∈ w ++ [j], LeftOn l left i := by
      intro i hi
      rcases List.mem_append.1 hi with hi | hi
      · exact h.arcs i hi
      · obtain rfl := List.mem_singleton.1 hi; exact hj
    have hlink : Linked l (w ++ [j]) := linked_snoc (v := v0) h.link (by rw [h.cur, hjv]) (fun _ => trivial)
    have hhead : ∀ a, (w ++ [j]).head? = some a → frmV l a = v0 := by
      intro a ha
      have := congrArg List.head? hF
      rw [List.head?_map, ha] at this
      simpa using this
    by_cases hm : towV l j ∈ v0 :: w.map (towV l)
    · obtain ⟨p, hp⟩ := List.getElem?_of_mem hm
      have hpl : p < w.length + 1 := by have := (List.getElem?_eq_some_iff.1 hp).1; simpa using this
      have hg := h.yes p _ hp
      refine ⟨towV l j, (w ++ [j]).drop p, ⟨?_, fun i hi => harcs i (List.mem_of_mem_drop hi), linked_drop p hlink, ?_, ?_, ?_⟩, fun k hk => ?_⟩
      · intro q
        have := congrArg List.length q
        simp at this
        omega
      · rw [List.map_drop, hF]
        exact h.nodup.sublist (List.drop_sublist p _)
      · intro i hi
        rw [List.getLast?_drop] at hi
        split at hi
        · simp at hi
        · simp at hi; rw [← hi]
      · have hp2 : ((w ++ [j]).drop p).head? = (w ++ [j])[p]? := by rw [List.head?_drop]
        have hlt : p < (w ++ [j]).length := by simp; omega
        refine ⟨(w ++ [j])[p], by rw [hp2, List.getElem?_eq_getElem hlt], .inl ?_⟩
        have h1 : ((w ++ [j]).map (frmV l))[p]? = some (frmV l ((w ++ [j])[p])) := by rw [List.getElem?_map, List.getElem?_eq_getElem hlt]; rfl
        rw [hF, hp] at h1
        exact (Option.some.inj h1).symm
      · obtain ⟨k, rfl⟩ : ∃ q, k = q + 1 := ⟨k - 1, by omega⟩
        rw [hstep k, hg]
        simp only
        rw [if_pos ⟨by omega, by simp; omega⟩, show ((p : Int)).toNat = p from rfl, hmapj, List.map_drop]
    · have hg := h.no _ hm
      by_cases c : towV l j = t ∧ value > 0
      · refine ⟨towV l j, w ++ [j], ⟨by simp, harcs, hlink, by rw [hF]; exact h.nodup, ?_, ?_⟩, fun k hk => ?_⟩
        · intro i hi; simp at hi; rw [← hi]
        · cases hh : (w ++ [j]).head? with
          | none => simp at hh
          | some a => exact ⟨a, rfl, .inr ⟨hhead a hh, c.1, c.2, by rw [hF, ← c.1]; exact hm⟩⟩
        · obtain ⟨k, rfl⟩ : ∃ q, k = q + 1 := ⟨k - 1, by omega⟩
          rw [hstep k, hg]
          simp only
          rw [if_pos ⟨by rw [c.1], c.2⟩, hmapj]
      · have hW : WInv n l left v0 (towV l j) (w ++ [j]) ((((towV l j : Nat) : Int), (w.length : Int) + 1) :: ml) := by
          refine ⟨harcs, hlink, hhead, endV_snoc _ _ _ _, ?_, ?_, ?_, ?_, ?_⟩
          · intro u hu
            rw [List.map_append, ← List.cons_append] at hu
            rcases List.mem_append.1 hu with hu | hu
            · exact h.lt u hu
            · simp at hu; omega
          · rw [List.map_append, ← List.cons_append]
            refine List.nodup_append.2 ⟨h.nodup, by simp, ?_⟩
            intro a ha b hb q
            simp at hb
            exact hm (by rw [← hb, ← q]; exact ha)
          · intro p u hu
            rw [List.map_append, ← List.cons_append] at hu
            rw [mget]
            rcases Nat.lt_or_ge p (w.length + 1) with hp | hp
            · rw [List.getElem?_append_left (by simpa using hp)] at hu
              have hu2 := List.mem_of_getElem? hu
              rw [if_neg (fun q => hm (by have : towV l j = u := by simp at q; omega
                                          rw [this]; exact hu2))]
              exact h.yes p u hu
            · rw [List.getElem?_append_right (by simpa using hp)] at hu
              have hp2 : p = w.length + 1 := by
                have := (List.getElem?_eq_some_iff.1 hu).1
                simp at this; omega
              subst hp2
              simp at hu
              rw [if_pos (by simp [hu])]
              rfl
          · intro u hu
            rw [List.map_append, ← List.cons_append] at hu
            rw [mget, if_neg (fun q => hu (by
              simp at q
              have : towV l j = u := by omega
              simp [this]))]
            exact h.no u (fun q => hu (List.mem_append_left _ q))
          · simp [h.mlen]
        obtain ⟨vE, wE, hs, hk2⟩ := ih (towV l j) (w ++ [j]) _ hW (by simp; omega) (fun _ => c)
        refine ⟨vE, wE, hs, fun k hk => ?_⟩
        obtain ⟨k, rfl⟩ : ∃ q, k = q + 1 := ⟨k - 1, by omega⟩
        rw [hstep k, hg]
        simp only
        rw [if_neg (fun q => c ⟨by have := q.1; omega, q.2⟩), hmapj, List.length_map]
        exact hk2 k (by omega)
theorem rtMin_ok {left : List Int} : ∀ (w : List Nat) (a : Int), (∀ i ∈ w, i < left.length) → ∃ m, rtMin left (w.map Int.ofNat) a = some m ∧ m ≤ a ∧ (∀ i ∈ w, m ≤ left.getD i 0) ∧ (m = a ∨ ∃ i ∈ w, left.getD i 0 = m)
  | [], a, _ => ⟨a, rfl, Int.le_refl _, fun i hi => by simp at hi, .inl rfl⟩
  | i :: w, a, h => by
    have hi := h i (by simp)
    obtain ⟨m, h1, h2, h3, h4⟩ := rtMin_ok w (mn a (left.getD i 0)) (fun j hj => h j (by simp [hj]))
    have hmn : mn a (left.getD i 0) ≤ a ∧ mn a (left.getD i 0) ≤ left.getD i 0 ∧ (mn a (left.getD i 0) = a ∨ mn a (left.getD i 0) = left.getD i 0) := by
      unfold mn; split <;> omega
    refine ⟨m, ?_, by omega, fun j hj => ?_, ?_⟩
    · rw [List.map_cons, rtMin]
      change (if 0 ≤ ((i : Nat) : Int) ∧ ((i : Nat) : Int) < (left.length : Int) then rtMin left (w.map Int.ofNat) (mn a (rd left ((i : Nat) : Int))) else none) = some m
      rw [if_pos ⟨by omega, by omega⟩, rd_nat]; exact h1
    · rcases List.mem_cons.1 hj with rfl | hj
      · omega
      · exact h3 j hj
    · rcases h4 with h4 | ⟨j, h5, h6⟩
      · rcases hmn.2.2 with q | q
        · exact .inl (by omega)
        · exact .inr ⟨i, by simp, by omega⟩
      · exact .inr ⟨j, by simp [h5], h6⟩

/-! ### taking it away -/
theorem sub_ok {n : Nat} {l : List S36} {m : Int} (hm0 : 0 < m) : ∀ (w : List Nat) (left : List Int), Net n l left → w.Nodup → (∀ i ∈ w, i < l.length ∧ m ≤ left.getD i 0) →
    ∃ left', rtSub m (w.map Int.ofNat) left = some left' ∧ lrSub m (w.map Int.ofNat) left = some left' ∧ Net n l left' ∧ (∀ u : Nat, netAt (u : Int) l left' = netAt (u : Int) l left + m * gain l u (w.map fun i => (i, true))) ∧
      ∀ j, left'.getD j 0 = left.getD j 0 - if j ∈ w then m else 0 := by
  intro w
  induction w with
  | nil => intro left h _ _; exact ⟨left, rfl, rfl, h, fun u => by simp [gain], fun j => by simp⟩
  | cons i w ih =>
    intro left h hnd hx
    obtain ⟨h1, h2⟩ := hx i (by simp)
    have hlen := h.len
    have hb := h.al i h1
    change 0 ≤ left.getD i 0 ∧ left.getD i 0 ≤ (arc l i).f2 at hb
    have ho := arc_ok h.ok h1
    unfold okArc at ho
    obtain ⟨q1, q2, q3⟩ := step_net h (x := (i, true)) h1 hm0 (show m ≤ room l left (i, true) from h2)
    obtain ⟨p1, p2⟩ := List.nodup_cons.1 hnd
    have hset : ∀ j, (left.set i (left.getD i 0 - m)).getD j 0 = left.getD j 0 - if j = i then m else 0 := by
      intro j
      simp only [List.getD_eq_getElem?_getD, List.getElem?_set]
      by_cases c : i = j
      · subst c
        rw [if_pos rfl, if_pos (by omega), if_pos rfl]; rfl
      · rw [if_neg c, if_neg (fun q => c q.symm)]; simp
    have es : amtSet left m (i, true) = left.getD i 0 - m := rfl
    rw [es] at q1 q2 q3
    obtain ⟨left', e1, e2, h3, h4, h5⟩ := ih (left.set i (left.getD i 0 - m)) q1 p2 (fun j hj => by
      have := hx j (by simp [hj])
      have hji : ¬ j = i := fun q => p1 (q ▸ hj)
      refine ⟨this.1, ?_⟩
      rw [hset j, if_neg hji]; omega)
    have w1 : wrap64 (left.getD i 0 - m) = left.getD i 0 - m := wr0 (by omega) (by omega)
    refine ⟨left', ?_, ?_, h3, fun u => ?_, fun j => ?_⟩
    · rw [List.map_cons, rtSub]
      change (if 0 ≤ ((i : Nat) : Int) ∧ ((i : Nat) : Int) < (left.length : Int) then rtSub m (w.map Int.ofNat) (left.set ((i : Nat) : Int).toNat (wrap64 (rd left ((i : Nat) : Int) - m))) else none) = some left'
      rw [if_pos ⟨by omega, by omega⟩, rd_nat, w1]; exact e1
    · rw [List.map_cons, lrSub]
      change (if 0 ≤ ((i : Nat) : Int) ∧ ((i : Nat) : Int) < (left.length : Int) ∧ ¬ m > rd left ((i : Nat) : Int) then lrSub m (w.map Int.ofNat) (left.set ((i : Nat) : Int).toNat (wrap64 (rd left ((i : Nat) : Int) - m))) else none) = some left'
      rw [if_pos ⟨by omega, by omega, by rw [rd_nat]; omega⟩, rd_nat, w1]; exact e2
    · rw [h4 u, q3 u]
      simp only [List.map_cons, gain]
      rw [Int.mul_add]; omega
    · rw [h5 j, hset j]
      by_cases c : j = i
      · subst c
        rw [if_pos rfl, if_neg p1, if_pos (by simp)]; omega
      · rw [if_neg c]
        by_cases c2 : j ∈ w
        · rw [if_pos c2, if_pos (by simp [c2])]; omega
        · rw [if_neg c2, if_neg (by simp [c, c2])]; omega
theorem gain_walk {l : List S36} (u : Nat) : ∀ (w : List Nat) (v : Nat), Linked l w → (∀ a, w.head? = some a → frmV l a = v) → gain l u (w.map fun i => (i, true)) = (if endV l v w = u then 1 else 0) - (if v = u then 1 else 0)
  | [], v, _, _ => by
    show (0 : Int) = (if v = u then 1 else 0) - (if v = u then 1 else 0)
    omega
  | a :: w, v, hl, hh => by
    have h1 : frmV l a = v := hh a rfl
    have := gain_walk u w (towV l a) (by
      cases w with
      | nil => trivial
      | cons b w => exact hl.2) (fun b hb => by
        cases w with
        | nil => simp at hb
        | cons c w =>
          obtain rfl := Option.some.inj hb
          exact hl.1.symm)
    rw [List.map_cons, gain, this, endV_cons]
    have e1 : fromV l (a, true) = towV l a := rfl
    have e2 : toV l (a, true) = frmV l a := rfl
    unfold dlt
    rw [e1, e2, h1]
    omega

/-! ### a route that was found is one -/
theorem irMark_ok {n : Nat} {l : List S36} (hok : okArcs (n : Int) l) : ∀ (w : List Nat) (met : List Bool), met.length = n → (∀ i ∈ w, i < l.length) → (w.map (frmV l)).Nodup → (∀ i ∈ w, met.getD (frmV l i) false = false) →
    ∃ met', irMark l (w.map Int.ofNat) met = some met' ∧ met'.length = n ∧ ∀ u, met'.getD u false = true → met.getD u false = true ∨ u ∈ w.map (frmV l)
  | [], met, hm, _, _, _ => ⟨met, rfl, hm, fun u h => .inl h⟩
  | i :: w, met, hm, hi, hnd, hf => by
    obtain ⟨e, h0⟩ := frmV_int hok (hi i (by simp))
    rw [List.map_cons] at hnd
    obtain ⟨p1, p2⟩ := List.nodup_cons.1 hnd
    have hset : ∀ u, (met.set (frmV l i) true).getD u false = if u = frmV l i then true else met.getD u false := by
      intro u
      simp only [List.getD_eq_getElem?_getD, List.getElem?_set]
      by_cases c : frmV l i = u
      · subst c
        rw [if_pos rfl, if_pos (by omega), if_pos rfl]; rfl
      · rw [if_neg c, if_neg (fun q => c q.symm)]
    obtain ⟨met', h1, h2, h3⟩ := irMark_ok hok w (met.set (frmV l i) true) (by rw [List.length_set]; exact hm) (fun j hj => hi j (by simp [hj])) p2 (fun j hj => by
      have hji : ¬ frmV l j = frmV l i := fun q => p1 (q ▸ List.mem_map.2 ⟨j, hj, rfl⟩)
      rw [hset, if_neg hji]; exact hf j (by simp [hj]))
    refine ⟨met', ?_, h2, fun u hu => ?_⟩
    · rw [List.map_cons, irMark]
      have e1 : (rd_T36 l (Int.ofNat i)).f0 = ((frmV l i : Nat) : Int) := by
        have : rd_T36 l (Int.ofNat i) = arc l i := rd36_nat l i
        rw [this]; exact e
      rw [e1, rdOf_nat, if_pos ⟨by omega, by omega, hf i (by simp)⟩]
      exact h1
    · rcases h3 u hu with q | q
      · rw [hset] at q
        by_cases c : u = frmV l i
        · exact .inr (by simp [c])
        · rw [if_neg c] at q; exact .inl q
      · exact .inr (by simp [q])
theorem rd_map_nat (w : List Nat) {j : Nat} (h : j < w.length) : rd (w.map Int.ofNat) (j : Int) = ((w[j] : Nat) : Int) := by
  rw [rd_nat, List.getD_eq_getElem?_getD, List.getElem?_map, List.getElem?_eq_getElem h]; rfl
theorem isRoute_ok {n : Nat} {l : List S36} {left : List Int} {s t v0 vE : Nat} {value m : Int} {w : List Nat} (hok : okArcs (n : Int) l) (hn : n ≤ 256) (hl : l.length ≤ 1024) (ht : t < n) (hm : 1 ≤ m) (hst : s ≠ t) (hv0 : value > 0 → v0 = s) (hwl : w.length ≤ n) (h : RSpec l left v0 t value vE w) :
    isRoute (n : Int) l (s : Int) (t : Int) (w.map Int.ofNat) m = some (decide (∃ i, w.head? = some i ∧ frmV l i = s ∧ vE = t)) := by
  obtain ⟨i0, hi0, hk⟩ := h.kind
  have hw0 : 0 < w.length := List.length_pos_iff.2 h.ne
  have hw00 : w[0] = i0 := by
    have := hi0
    rw [List.head?_eq_getElem?, List.getElem?_eq_getElem hw0] at this
    exact Option.some.inj this
  have hlast : towV l (w[w.length - 1]) = vE := h.last _ (by rw [List.getLast?_eq_getElem?, List.getElem?_eq_getElem (by omega)])
  have hin : ∀ i ∈ w, i < l.length := fun i hi => (h.arcs i hi).1
  have hlinks : irLinks l (w.map Int.ofNat) := by
    intro j hj
    rw [List.length_map] at hj
    rw [rd_map_nat w hj]
    refine ⟨by omega, by have := hin _ (List.getElem_mem hj); omega, fun hj0 => ?_⟩
    obtain ⟨q, rfl⟩ : ∃ q, j = q + 1 := ⟨j - 1, by omega⟩
    rw [show ((q + 1 : Nat) : Int) - 1 = (q : Int) by omega, rd_map_nat w (show q < w.length by omega), rd36_nat, rd36_nat]
    have e1 := (towV_int hok (hin _ (List.getElem_mem (show q < w.length by omega)))).1
    have e2 := (frmV_int hok (hin _ (List.getElem_mem hj))).1
    change (arc l w[q]).f1 = (arc l w[q + 1]).f0
    rw [e1, e2, linked_get q hj h.link]
  have hF : irFirst l (w.map Int.ofNat) = ((frmV l i0 : Nat) : Int) := by
    unfold irFirst
    have e := rd_map_nat w hw0
    rw [show ((0 : Nat) : Int) = 0 from rfl] at e
    rw [e, hw00, rd36_nat]
    exact (frmV_int hok (hin i0 (by rw [← hw00]; exact List.getElem_mem hw0))).1
  have hL : irLast l (w.map Int.ofNat) = ((vE : Nat) : Int) := by
    unfold irLast
    rw [List.length_map, show (w.length : Int) - 1 = ((w.length - 1 : Nat) : Int) by omega, rd_map_nat w (by omega), rd36_nat]
    have := (towV_int hok (hin _ (List.getElem_mem (show w.length - 1 < w.length by omega)))).1
    change (arc l _).f1 = _
    rw [this, hlast]
  obtain ⟨met, hm1, hm2, hm3⟩ := irMark_ok hok w (List.replicate n false) (by simp) hin h.nodup (fun i hi => by simp [List.getD_eq_getElem?_getD, List.getElem?_replicate]; split <;> rfl)
  unfold isRoute
  rw [if_pos ⟨by simpa using hw0, by simp; omega, hm, by omega, by omega, hlinks⟩, show ((n : Int)).toNat = n from rfl, hm1, Option.bind_some, hF, hL]
  rcases hk with hk | ⟨hk1, hk2, hk3, hk4⟩
  · have hd : decide (∃ i, w.head? = some i ∧ frmV l i = s ∧ vE = t) = false := by
      refine decide_eq_false ?_
      rintro ⟨i, h1, h2, h3⟩
      rw [hi0] at h1
      obtain rfl := Option.some.inj h1
      omega
    rw [hd, if_pos (by rw [hk])]
  · have e := hv0 hk3
    subst hk2
    have hd : decide (∃ i, w.head? = some i ∧ frmV l i = s ∧ vE = vE) = true := decide_eq_true ⟨i0, hi0, by omega, rfl⟩
    have hz : rdOf false met ((vE : Nat) : Int) = false := by
      rw [rdOf_nat]
      cases q : met.getD vE false with
      | false => rfl
      | true =>
        rcases hm3 vE q with q2 | q2
        · simp [List.getD_eq_getElem?_getD, List.getElem?_replicate] at q2
          try (split at q2 <;> simp at q2)
        · exact absurd q2 hk4
    rw [hd, if_neg (by omega), if_pos ⟨by omega, rfl, by omega, by omega, hz⟩]
/-- a flow of which something is left, with a cut over which nothing flows back -/
structure RInv (n : Nat) (l : List S36) (s t : Nat) (sd : List Bool) (left : List Int) (value : Int) : Prop where
  flow : isFlow n l (s : Int) (t : Int) left
  val : netAt (s : Int) l left = value
  back : ∀ i, i < l.length → sd.getD (frmV l i) false = false → sd.getD (towV l i) false = true → left.getD i 0 = 0
theorem xTo_ge {n : Nat} {l : List S36} {left : List Int} {sd : List Bool} (hok : okArcs (n : Int) l) (hal : okAl l left) (hb : ∀ i, i < l.length → sd.getD (frmV l i) false = false → sd.getD (towV l i) false = true → left.getD i 0 = 0) :
    ∀ k, k ≤ l.length → 0 ≤ xTo (sideFn sd) l left k ∧ ∀ i, i < k → sd.getD (frmV l i) false = true → sd.getD (towV l i) false = false → left.getD i 0 ≤ xTo (sideFn sd) l left k := by
  intro k
  induction k with
  | zero => intro _; exact ⟨by simp [xTo], fun i hi => by omega⟩
  | succ k ih =>
    intro hk
    obtain ⟨h1, h2⟩ := ih (by omega)
    have ha := hal k (by omega)
    have hb' := hb k (by omega)
    rw [xTo]
    have hx : 0 ≤ xAt (sideFn sd) (l.getD k z36) (left.getD k 0) ∧ (sd.getD (frmV l k) false = true → sd.getD (towV l k) false = false → left.getD k 0 ≤ xAt (sideFn sd) (l.getD k z36) (left.getD k 0)) := by
      have ha1 := ha.1
      generalize left.getD k 0 = x at ha1 hb'
      unfold xAt
      change 0 ≤ (if sd.getD (frmV l k) false = true then x else 0) - (if sd.getD (towV l k) false = true then x else 0) ∧ (_ → _ → x ≤ (if sd.getD (frmV l k) false = true then x else 0) - (if sd.getD (towV l k) false = true then x else 0))
      cases c1 : sd.getD (frmV l k) false with
      | true =>
        cases c2 : sd.getD (towV l k) false with
        | true => simp
        | false => simp [ha1]
      | false =>
        cases c2 : sd.getD (towV l k) false with
        | true =>
          have e0 : x = 0 := by first | exact hb' (by omega) c1 c2 | exact hb' (by omega) rfl c2 | exact hb' (by omega) rfl rfl | exact hb' (by omega) c2 | exact hb' c1 c2 | exact hb' c2
          rw [e0]; simp
        | false => simp
    refine ⟨by omega, fun i hi c1 c2 => ?_⟩
    by_cases c : i = k
    · subst c; have := hx.2 c1 c2; omega
    · have := h2 i (by omega) c1 c2; omega
theorem RInv.net {n : Nat} {l : List S36} {s t : Nat} {sd : List Bool} {left : List Int} {value : Int} (he : endsOf (n : Int) l (s : Int) (t : Int) = 0) (hc : isCut n (s : Int) (t : Int) sd) (h : RInv n l s t sd left value) :
    0 ≤ value ∧ ∀ i, i < l.length → sd.getD (frmV l i) false = true → sd.getD (towV l i) false = false → left.getD i 0 ≤ value := by
  obtain ⟨h0, hs0, hs1, ht0, ht1, hst⟩ := endsOf_ok he
  obtain ⟨_, _, _, h4⟩ := chk_ok h0
  have e1 := flow_across (side := sideFn sd) h4 h.flow (show s < n by omega) (show t < n by omega) (by omega) hc.2.1
  have e2 : sideFn sd t = false := hc.2.2
  rw [e2, if_neg (by decide), h.val] at e1
  have := xTo_ge h4 h.flow.2.1 h.back l.length (Nat.le_refl _)
  rw [← show value + 0 = xTo (sideFn sd) l left l.length from e1] at this
  simpa using this
/-- where nothing flows out, nothing comes in, unless it stays -/
theorem no_out {n : Nat} {l : List S36} {left : List Int} (hok : okArcs (n : Int) l) (hal : okAl l left) (u : Nat) (h : ∀ j, j < l.length → frmV l j = u → ¬ 0 < left.getD j 0) : ∀ k, k ≤ l.length → netTo (u : Int) l left k ≤ 0 ∧ ∀ i, i < k → towV l i = u → netTo (u : Int) l left k ≤ - left.getD i 0 := by
  intro k
  induction k with
  | zero => intro _; exact ⟨by simp [netTo], fun i hi => by omega⟩
  | succ k ih =>
    intro hk
    obtain ⟨h1, h2⟩ := ih (by omega)
    have ha := hal k (by omega)
    obtain ⟨e0, _⟩ := frmV_int hok (show k < l.length by omega)
    obtain ⟨e1, _⟩ := towV_int hok (show k < l.length by omega)
    change (l.getD k z36).f0 = _ at e0
    change (l.getD k z36).f1 = _ at e1
    have hk0 := h k (by omega)
    have hx : flowAt (u : Int) (l.getD k z36) (left.getD k 0) ≤ 0 ∧ (towV l k = u → flowAt (u : Int) (l.getD k z36) (left.getD k 0) ≤ - left.getD k 0) := by
      unfold flowAt
      rw [e0, e1]
      by_cases c0 : frmV l k = u
      · have := hk0 c0
        rw [if_pos (by omega)]
        by_cases c1 : towV l k = u
        · rw [if_pos (by omega)]; omega
        · rw [if_neg (by omega)]; omega
      · rw [if_neg (by omega)]
        by_cases c1 : towV l k = u
        · rw [if_pos (by omega)]; omega
        · rw [if_neg (by omega)]; omega
    rw [netTo]
    refine ⟨by omega, fun i hi c => ?_⟩
    by_cases q : i = k
    · subst q; have := hx.2 c; omega
    · have := h2 i (by omega) c; omega
theorem RInv.on {n : Nat} {l : List S36} {s t : Nat} {sd : List Bool} {left : List Int} {value : Int} (he : endsOf (n : Int) l (s : Int) (t : Int) = 0) (hc : isCut n (s : Int) (t : Int) sd) (h : RInv n l s t sd left value) :
    (∀ i, LeftOn l left i → ¬ (towV l i = t ∧ value > 0) → ∃ j, LeftOn l left j ∧ frmV l j = towV l i) ∧ (value > 0 → ∃ j, LeftOn l left j ∧ frmV l j = s) := by
  obtain ⟨h0, hs0, hs1, ht0, ht1, hst⟩ := endsOf_ok he
  obtain ⟨_, _, _, h4⟩ := chk_ok h0
  have hv := (h.net he hc).1
  have hte := flow_ends_eq he h.flow
  rw [h.val] at hte
  have key : ∀ u : Nat, (∀ j, LeftOn l left j → ¬ frmV l j = u) → netAt (u : Int) l left ≤ 0 ∧ ∀ i, i < l.length → towV l i = u → netAt (u : Int) l left ≤ - left.getD i 0 := fun u hu => no_out h4 h.flow.2.1 u (fun j hj hf hp => hu j ⟨hj, hp⟩ hf) l.length (Nat.le_refl _)
  refine ⟨fun i hi hn => ?_, fun hp => ?_⟩
  · refine Classical.byContradiction fun hno => ?_
    obtain ⟨_, k2⟩ := key (towV l i) (fun j hj hf => hno ⟨j, hj, hf⟩)
    have k3 := k2 i hi.1 rfl
    have hi2 := hi.2
    have hlt := (towV_int h4 hi.1).2
    by_cases c1 : towV l i = s
    · rw [c1, h.val] at k3; omega
    · by_cases c2 : towV l i = t
      · rw [c2] at k3
        have : ¬ value > 0 := fun q => hn ⟨c2, q⟩
        omega
      · have := h.flow.2.2 (towV l i) hlt (by omega) (by omega)
        omega
  · refine Classical.byContradiction fun hno => ?_
    obtain ⟨k1, _⟩ := key s (fun j hj hf => hno ⟨j, hj, hf⟩)
    rw [h.val] at k1; omega
theorem cross {l : List S36} {sd : List Bool} : ∀ (w : List Nat) (i0 : Nat), Linked l w → w.head? = some i0 → sd.getD (frmV l i0) false = true → (∀ i, w.getLast? = some i → sd.getD (towV l i) false = false) → ∃ i ∈ w, sd.getD (frmV l i) false = true ∧ sd.getD (towV l i) false = false
  | [], i0, _, h, _, _ => by simp at h
  | [a], i0, _, h, h1, h2 => by
    obtain rfl := Option.some.inj h
    exact ⟨a, by simp, h1, h2 a rfl⟩
  | a :: b :: w, i0, hl, h, h1, h2 => by
    obtain rfl := Option.some.inj h
    cases c : sd.getD (towV l a) false with
    | false => exact ⟨a, by simp, h1, c⟩
    | true =>
      obtain ⟨i, hi, q1, q2⟩ := cross (b :: w) b hl.2 rfl (by rw [← hl.1]; exact c) (fun i hi => h2 i (by rw [List.getLast?_cons_cons]; exact hi))
      exact ⟨i, by simp [hi], q1, q2⟩

/-! ### how many arcs are left -/
def posTo (left : List Int) : Nat → Nat
  | 0 => 0
  | k + 1 => posTo left k + if 0 < left.getD k 0 then 1 else 0
theorem posTo_le (left : List Int) : ∀ k, posTo left k ≤ k
  | 0 => Nat.le_refl _
  | k + 1 => by have := posTo_le left k; rw [posTo]; split <;> omega
theorem posTo_less {a b : List Int} (h : ∀ j, b.getD j 0 ≤ a.getD j 0) : ∀ k, posTo b k ≤ posTo a k ∧ ∀ j, j < k → 0 < a.getD j 0 → ¬ 0 < b.getD j 0 → posTo b k + 1 ≤ posTo a k
  | 0 => ⟨Nat.le_refl _, fun j hj => by omega⟩
  | k + 1 => by
    obtain ⟨h1, h2⟩ := posTo_less h k
    have hk := h k
    rw [posTo, posTo]
    refine ⟨by split <;> split <;> omega, fun j hj ha hb => ?_⟩
    by_cases c : j = k
    · subst c; rw [if_pos ha, if_neg hb]; omega
    · have := h2 j (by omega) ha hb
      split <;> split <;> omega
theorem posTo_pos {a : List Int} : ∀ k j, j < k → 0 < a.getD j 0 → 1 ≤ posTo a k
  | 0, j, hj, _ => by omega
  | k + 1, j, hj, h => by
    rw [posTo]
    by_cases c : j = k
    · subst c; rw [if_pos h]; omega
    · have := posTo_pos k j (by omega) h; omega
theorem idxFrom_ok : ∀ (a : List Int) (i : Nat), (idxFrom above a (i : Int) = -1 ∧ ∀ j, ¬ 0 < a.getD j 0) ∨ ∃ j : Nat, idxFrom above a (i : Int) = ((i + j : Nat) : Int) ∧ j < a.length ∧ 0 < a.getD j 0
  | [], i => .inl ⟨rfl, fun j => by simp⟩
  | x :: a, i => by
    rw [idxFrom]
    by_cases c : above x = true
    · rw [if_pos c]
      exact .inr ⟨0, by simp, by simp, by simpa [above] using c⟩
    · rw [if_neg c]
      have e : ((i : Int) + 1) = ((i + 1 : Nat) : Int) := by omega
      rw [e]
      rcases idxFrom_ok a (i + 1) with ⟨h1, h2⟩ | ⟨j, h1, h2, h3⟩
      · refine .inl ⟨h1, fun j => ?_⟩
        cases j with
        | zero => simpa [above] using c
        | succ j => simpa using h2 j
      · exact .inr ⟨j + 1, by rw [h1]; congr 1; omega, by simp; omega, by simpa using h3⟩
theorem start_ok {n : Nat} {l : List S36} {s t : Nat} {sd : List Bool} {left : List Int} {value : Int} (he : endsOf (n : Int) l (s : Int) (t : Int) = 0) (hc : isCut n (s : Int) (t : Int) sd) (h : RInv n l s t sd left value) :
    (rtStart l left (s : Int) value = some none ∧ value = 0 ∧ ∀ j, ¬ 0 < left.getD j 0) ∨ ∃ v0 : Nat, rtStart l left (s : Int) value = some (some (v0 : Int)) ∧ v0 < n ∧ (value > 0 → v0 = s) ∧ ∃ j, LeftOn l left j ∧ frmV l j = v0 := by
  obtain ⟨h0, hs0, hs1, ht0, ht1, hst⟩ := endsOf_ok he
  obtain ⟨_, _, _, h4⟩ := chk_ok h0
  have hv := (h.net he hc).1
  unfold rtStart
  by_cases c : value = 0
  · rw [if_pos c]
    have hi := idxFrom_ok left 0
    rw [show ((0 : Nat) : Int) = 0 from rfl] at hi
    unfold idxOf
    rcases hi with ⟨h1, h2⟩ | ⟨j, h1, h2, h3⟩
    · rw [h1, if_pos (by decide)]
      exact .inl ⟨rfl, c, h2⟩
    · have hlen := h.flow.1
      rw [h1, Nat.zero_add, if_neg (by omega), if_pos (by omega)]
      obtain ⟨e0, e1⟩ := frmV_int h4 (show j < l.length by omega)
      refine .inr ⟨frmV l j, ?_, e1, fun q => by omega, j, ⟨by omega, h3⟩, rfl⟩
      rw [rd36_nat]
      exact congrArg (fun z => some (some z)) e0
  · rw [if_neg c]
    refine .inr ⟨s, rfl, by omega, fun _ => rfl, (h.on he hc).2 (by omega)⟩
theorem rtMain_ok {n : Nat} {l : List S36} {s t : Nat} {sd : List Bool} {rows : List (List Int)} (he : endsOf (n : Int) l (s : Int) (t : Int) = 0) (hc : isCut n (s : Int) (t : Int) sd) (hrn : rows.length = n) (hrows : ∀ v, v < n → rows.getD v [] = (outTo l l.length v).map Int.ofNat) (c : Nat) : ∀ (left : List Int) (value v : Int) (rs : List S63),
    RInv n l s t sd left value → posTo left l.length ≤ c → rs.length + posTo left l.length ≤ 1024 → 0 ≤ v → v + value ≤ 1125899906842624 →
    ∃ new left', (∀ k, n + c + 1 ≤ k → rtMain l rows (s : Int) (t : Int) k left value rs = some (rs ++ new, 0)) ∧ lrAll (n : Int) l (s : Int) (t : Int) new left v = some (left', v + value) ∧ (∀ x ∈ left', x = 0) ∧ new.length ≤ posTo left l.length ∧ ∀ r ∈ new, 1 ≤ r.f1 := by
  obtain ⟨h0, hs0, hs1, ht0, ht1, hst⟩ := endsOf_ok he
  obtain ⟨_, hn, hl, hok⟩ := chk_ok h0
  induction c with
  | zero =>
    intro left value v rs hi hp hrs hv hvb
    rcases start_ok he hc hi with ⟨h1, h2, h3⟩ | ⟨v0, h1, h2, h3, j, hj, hf⟩
    · subst h2
      refine ⟨[], left, fun k hk => ?_, by simp [lrAll], fun x hx => ?_, by simp, fun r hr => by simp at hr⟩
      · obtain ⟨k, rfl⟩ : ∃ q, k = q + 1 := ⟨k - 1, by omega⟩
        rw [rtMain, h1, List.append_nil]; rfl
      · obtain ⟨j, hj, rfl⟩ := List.getElem_of_mem hx
        have := h3 j
        have h4 := hi.flow.2.1 j (by have := hi.flow.1; omega)
        simp [List.getD, hj] at this h4
        omega
    · have := posTo_pos l.length j hj.1 hj.2
      omega
  | succ c ih =>
    intro left value v rs hi hp hrs hv hvb
    rcases start_ok he hc hi with ⟨h1, h2, h3⟩ | ⟨v0, h1, h2, h3, hon⟩
    · subst h2
      refine ⟨[], left, fun k hk => ?_, by simp [lrAll], fun x hx => ?_, by simp, fun r hr => by simp at hr⟩
      · obtain ⟨k, rfl⟩ : ∃ q, k = q + 1 := ⟨k - 1, by omega⟩
        rw [rtMain, h1, List.append_nil]; rfl
      · obtain ⟨j, hj, rfl⟩ := List.getElem_of_mem hx
        have := h3 j
        have h4 := hi.flow.2.1 j (by have := hi.flow.1; omega)
        simp [List.getD, hj] at this h4
        omega
    · have hlen := hi.flow.1
      have hval := hi.net he hc
      have hpos1 : 1 ≤ posTo left l.length := by
        obtain ⟨j, hj, _⟩ := hon
        exact posTo_pos l.length j hj.1 hj.2
      have hW : WInv n l left v0 v0 [] [((v0 : Int), 0)] := by
        refine ⟨fun i hi => by simp at hi, trivial, fun a ha => by simp at ha, rfl, fun u hu => by simp at hu; omega, by simp, ?_, ?_, rfl⟩
        · intro p u hu
          cases p with
          | zero =>
            simp at hu
            subst hu
            simp [mget]
          | succ p => simp at hu
        · intro u hu
          simp at hu
          rw [mget, if_neg (by simp; omega)]; rfl
      obtain ⟨vE, wE, hR, hwalk⟩ := rtWalk_ok (t := t) (value := value) hok (by omega) hl hlen hrn hrows (hi.on he hc).1 hon n v0 [] [((v0 : Int), 0)] hW (by simp) (fun q => absurd rfl q)
      have hwl : wE.length ≤ n := by
        have := nodup_len hR.nodup (fun u hu => by
          obtain ⟨i, hi2, rfl⟩ := List.mem_map.1 hu
          exact (frmV_int hok (hR.arcs i hi2).1).2)
        simpa using this
      have hw0 : 0 < wE.length := List.length_pos_iff.2 hR.ne
      obtain ⟨i0, hi0, hkind⟩ := hR.kind
      have hw00 : wE[0] = i0 := by
        have := hi0
        rw [List.head?_eq_getElem?, List.getElem?_eq_getElem hw0] at this
        exact Option.some.inj this
      have hi0m : i0 ∈ wE := by rw [← hw00]; exact List.getElem_mem hw0
      have hi0L := hR.arcs i0 hi0m
      have hfirst : rd (wE.map Int.ofNat) 0 = (i0 : Int) := by
        have e := rd_map_nat wE hw0
        rw [show ((0 : Nat) : Int) = 0 from rfl, hw00] at e
        exact e
      obtain ⟨m, hm1, hm2, hm3, hm4⟩ := rtMin_ok (left := left) wE (left.getD i0 0) (fun i hi2 => by have := (hR.arcs i hi2).1; omega)
      have hm0 : 0 < m := by
        rcases hm4 with q | ⟨j, hj, q⟩
        · have := hi0L.2; omega
        · have := (hR.arcs j hj).2; omega
      have hmat : ∃ j ∈ wE, left.getD j 0 = m := by
        rcases hm4 with q | ⟨j, hj, q⟩
        · exact ⟨i0, hi0m, q.symm⟩
        · exact ⟨j, hj, q⟩
      have hnd : wE.Nodup := by
        have := hR.nodup
        exact List.Pairwise.of_map (S := fun a b => a ≠ b) (f := frmV l) (fun a b q e => q (congrArg _ e)) this
      have hN := isFlow_net h0 hi.flow
      obtain ⟨left2, hs1', hs2', hN2, hnet2, hg2⟩ := sub_ok hm0 wE left hN hnd (fun i hi2 => ⟨(hR.arcs i hi2).1, hm3 i hi2⟩)
      have hgain : ∀ u : Nat, gain l u (wE.map fun i => (i, true)) = (if vE = u then 1 else 0) - (if frmV l i0 = u then 1 else 0) := by
        intro u
        rw [gain_walk u wE (frmV l i0) hR.link (fun a ha => by rw [hi0] at ha; rw [← Option.some.inj ha])]
        have : endV l (frmV l i0) wE = vE := by
          unfold endV
          cases q : wE.getLast? with
          | none => simp at q; exact absurd q hR.ne
          | some i => exact hR.last i q
        rw [this]
      have hless : ∀ j, left2.getD j 0 ≤ left.getD j 0 := by
        intro j
        rw [hg2 j]; split <;> omega
      have hposl : posTo left2 l.length + 1 ≤ posTo left l.length := by
        obtain ⟨j, hj, q⟩ := hmat
        refine (posTo_less hless l.length).2 j (hR.arcs j hj).1 (hR.arcs j hj).2 ?_
        rw [hg2 j, if_pos hj]; omega
      -- a path from s to t, or a circle
      have hpath : (frmV l i0 = s ∧ vE = t ∧ value > 0 ∧ m ≤ value) ∨ (frmV l i0 = vE ∧ ¬ (frmV l i0 = s ∧ vE = t)) := by
        rcases hkind with q | ⟨q1, q2, q3, q4⟩
        · exact .inr ⟨q, fun z => by omega⟩
        · refine .inl ⟨by rw [q1, h3 q3], q2, q3, ?_⟩
          obtain ⟨i, hi2, c1, c2⟩ := cross (sd := sd) wE i0 hR.link hi0 (by rw [q1, h3 q3]; exact hc.2.1) (fun i hi2 => by rw [hR.last i hi2, q2]; exact hc.2.2)
          have := hval.2 i (hR.arcs i hi2).1 c1 c2
          have := hm3 i hi2
          omega
      have hiso := isRoute_ok hok (by omega) hl (show t < n by omega) (show 1 ≤ m by omega) (show s ≠ t by omega) h3 hwl hR
      have hcond : (∃ i, wE.head? = some i ∧ frmV l i = s ∧ vE = t) ↔ (frmV l i0 = s ∧ vE = t) := by
        constructor
        · rintro ⟨i, q1, q2, q3⟩
          rw [hi0] at q1
          obtain rfl := Option.some.inj q1
          exact ⟨q2, q3⟩
        · rintro ⟨q2, q3⟩; exact ⟨i0, hi0, q2, q3⟩
      have ef0 : (rd_T36 l (i0 : Int)).f0 = ((frmV l i0 : Nat) : Int) := by rw [rd36_nat]; exact (frmV_int hok hi0L.1).1
      have hback : ∀ i, i < l.length → sd.getD (frmV l i) false = false → sd.getD (towV l i) false = true → left2.getD i 0 = 0 := by
        intro i q1 q2 q3
        have e1 := hi.back i q1 q2 q3
        have e2 := hless i
        have e3 := (hN2.al i q1).1
        omega
      -- what follows, for the value that is left
      have hround : ∀ value2 : Int, ∀ k, n + (c + 1) + 1 ≤ k + 1 → ((if (frmV l i0 = s ∧ vE = t) then wrap64 (value - m) else value) = value2) → rtMain l rows (s : Int) (t : Int) (k + 1) left value rs = rtMain l rows (s : Int) (t : Int) k left2 value2 (rs ++ [⟨wE.map Int.ofNat, m⟩]) := by
        intro value2 k hk hv2
        have hrsl : rs.length < 1099511627776 := by omega
        rw [rtMain, h1, Option.bind_some]
        simp only
        rw [if_pos ⟨by omega, by omega, hrsl⟩]
        have hwk := hwalk k (by omega)
        rw [List.map_nil] at hwk
        rw [hwk, Option.bind_some]
        simp only
        rw [hfirst, if_pos ⟨by simpa using hw0, by simp; omega, by omega, by have := hi0L.1; omega, by have := hi0L.1; omega⟩, rd_nat, hm1, Option.bind_some, hs1', Option.bind_some, ef0, ← hv2]
        congr 1
        by_cases q : frmV l i0 = s ∧ vE = t
        · rw [if_pos q, if_pos ⟨by rw [q.1], by rw [q.2]⟩]
        · rw [if_neg q, if_neg (fun z => q ⟨by have := z.1; omega, by have := z.2; omega⟩)]
      rcases hpath with ⟨p1, p2, p3, p4⟩ | ⟨p1, p2⟩
      · -- a path
        have ew : wrap64 (value - m) = value - m := wr0 (by omega) (by omega)
        have ew2 : wrap64 (v + m) = v + m := wr0 (by omega) (by omega)
        have hi' : RInv n l s t sd left2 (value - m) := by
          refine ⟨⟨hN2.len, hN2.al, fun u hu q1 q2 => ?_⟩, ?_, hback⟩
          · rw [hnet2 u, hi.flow.2.2 u hu q1 q2, hgain u, if_neg (by omega), if_neg (by omega)]; simp
          · rw [hnet2 s, hi.val, hgain s, if_neg (by omega), if_pos p1]; omega
        obtain ⟨new, lf, g1, g2, g3, g4, g5⟩ := ih left2 (value - m) (v + m) (rs ++ [⟨wE.map Int.ofNat, m⟩]) hi' (by omega) (by simp; omega) (by omega) (by omega)
        refine ⟨⟨wE.map Int.ofNat, m⟩ :: new, lf, fun k hk => ?_, ?_, g3, by simp; omega, ?_⟩
        · obtain ⟨k, rfl⟩ : ∃ q, k = q + 1 := ⟨k - 1, by omega⟩
          rw [hround (value - m) k hk (by rw [if_pos ⟨p1, p2⟩, ew]), g1 k (by omega), List.append_assoc]; rfl
        · rw [lrAll]
          simp only
          rw [hiso, Option.bind_some, hs2', Option.bind_some, if_pos (decide_eq_true (hcond.2 ⟨p1, p2⟩)), ew2, g2]
          congr 2; omega
        · intro r hr
          rcases List.mem_cons.1 hr with rfl | hr
          · exact hm0
          · exact g5 r hr
      · -- a circle
        have hi' : RInv n l s t sd left2 value := by
          have hz : ∀ u : Nat, netAt (u : Int) l left2 = netAt (u : Int) l left := by
            intro u
            rw [hnet2 u, hgain u, p1]; simp
          exact ⟨⟨hN2.len, hN2.al, fun u hu q1 q2 => by rw [hz u]; exact hi.flow.2.2 u hu q1 q2⟩, by rw [hz s]; exact hi.val, hback⟩
        obtain ⟨new, lf, g1, g2, g3, g4, g5⟩ := ih left2 value v (rs ++ [⟨wE.map Int.ofNat, m⟩]) hi' (by omega) (by simp; omega) hv hvb
        refine ⟨⟨wE.map Int.ofNat, m⟩ :: new, lf, fun k hk => ?_, ?_, g3, by simp; omega, ?_⟩
        · obtain ⟨k, rfl⟩ : ∃ q, k = q + 1 := ⟨k - 1, by omega⟩
          rw [hround value k hk (by rw [if_neg p2]), g1 k (by omega), List.append_assoc]; rfl
        · rw [lrAll]
          simp only
          rw [hiso, Option.bind_some, hs2', Option.bind_some, decide_eq_false (fun z => p2 (hcond.1 z))]
          simp only [Bool.false_eq_true, if_false]
          exact g2
        · intro r hr
          rcases List.mem_cons.1 hr with rfl | hr
          · exact hm0
          · exact g5 r hr
theorem cert_inv {n : Nat} {l : List S36} {s t : Nat} {val : Int} {al : List Int} {sd : List Bool} (he : endsOf (n : Int) l (s : Int) (t : Int) = 0) (h : isCert n l (s : Int) (t : Int) val al sd) : RInv n l s t sd al val := by
  obtain ⟨h0, hs0, hs1, ht0, ht1, hst⟩ := endsOf_ok he
  obtain ⟨_, _, _, h4⟩ := chk_ok h0
  obtain ⟨hf, hc, hv, hcut⟩ := h
  refine ⟨hf, hv, fun i hi c1 c2 => ?_⟩
  have e1 := flow_across (side := sideFn sd) h4 hf (show s < n by omega) (show t < n by omega) (by omega) hc.2.1
  have e2 : sideFn sd t = false := hc.2.2
  rw [e2, if_neg (by decide), hv, Int.add_zero, ← hcut] at e1
  have hN := isFlow_net h0 hf
  have := shut_of_eq hN l.length (Nat.le_refl _) (by rw [cutTo_all]; exact e1.symm) (i, true) hi (show sd.getD (towV l i) false = true from c2)
  have ha := (hf.2.1 i hi).1
  refine Classical.byContradiction fun hne => ?_
  have h5 := this (show 0 < al.getD i 0 by omega)
  change sd.getD (frmV l i) false = true at h5
  rw [c1] at h5; cases h5
/-- what Routes does with a certified flow -/
theorem Routes_ok {n : Nat} {l : List S36} {s t : Nat} {val : Int} {al : List Int} {sd : List Bool} (he : endsOf (n : Int) l (s : Int) (t : Int) = 0) (h : isCert n l (s : Int) (t : Int) val al sd) :
    ∃ rs lf, Ev (fun k => flow_Routes.f k (n : Int) l (s : Int) (t : Int) val al sd) (rs, 0) ∧ lrAll (n : Int) l (s : Int) (t : Int) rs al 0 = some (lf, val) ∧ (∀ x ∈ lf, x = 0) ∧ rs.length ≤ l.length ∧ ∀ r ∈ rs, 1 ≤ r.f1 := by
  obtain ⟨h0, hs0, hs1, ht0, ht1, hst⟩ := endsOf_ok he
  obtain ⟨hn1, hn, hl, hok⟩ := chk_ok h0
  obtain ⟨rows, hr1, hr2, hr3⟩ := rtAt_ok hok hl l.length 0 (List.replicate n []) (by omega) (by simp) (fun v hv => by simp [List.getD_eq_getElem?_getD, List.getElem?_replicate, hv, outTo])
  rw [List.drop_zero] at hr1
  have hpl := posTo_le al l.length
  have hnb := netAt_bound h0 h.1 (s : Int)
  rw [h.2.2.1] at hnb
  obtain ⟨new, lf, g1, g2, g3, g4, g5⟩ := rtMain_ok he h.2.1 hr2 hr3 l.length al val 0 [] (cert_inv he h) hpl (by simp; omega) (by omega) (by omega)
  refine ⟨new, lf, ?_, by rw [g2, Int.zero_add], g3, by omega, g5⟩
  unfold flow_Routes.f
  refine Ev.bind (Check_ev _ _ _ _ _ _ _) ?_
  have e : checkAns (n : Int) l (s : Int) (t : Int) val al sd = 0 := by
    unfold checkAns
    rw [if_pos he, Int.toNat_natCast, B_true h, if_pos rfl]
  rw [e]
  simp only [if_true]
  simp only [if_pos (show 0 < (n : Int) ∧ (n : Int) ≤ 1099511627776 ∧ l.length ≤ 1099511627776 ∧ al.length = l.length from ⟨by omega, by omega, by omega, h.1.1⟩), Int.toNat_natCast, hr1, Option.bind_some]
  exact ⟨n + l.length + 1, fun k hk => by have := g1 k hk; rw [List.nil_append] at this; exact this⟩
theorem onesK_arc (l : List S36) : ∀ j, j ≤ l.length → ∀ i, arc (onesK l j) i = if i < j then ⟨(arc l i).f0, (arc l i).f1, 1⟩ else arc l i
  | 0, _, i => by simp [onesK]
  | j + 1, hj, i => by
    show arc (setCap 1 (onesK l j) (j : Int)) i = _
    rw [setCap_arc, onesK_len, onesK_arc l j (by omega) i]
    by_cases c : j = i
    · subst c
      rw [if_pos ⟨rfl, by omega⟩, if_neg (by omega), if_pos (by omega)]
    · rw [if_neg (fun z => c z.1)]
      by_cases c2 : i < j
      · rw [if_pos c2, if_pos (by omega)]
      · rw [if_neg c2, if_neg (by omega)]
theorem ones_cap (l : List S36) {i : Nat} (hi : i < l.length) : ((onesK l l.length).getD i z36).f2 = 1 := by
  have := onesK_arc l l.length (Nat.le_refl _) i
  rw [if_pos hi] at this
  unfold arc at this
  rw [this]
theorem ones_mem (l : List S36) {a : S36} (h : a ∈ onesK l l.length) : a.f2 = 1 := by
  obtain ⟨i, hi, rfl⟩ := List.getElem_of_mem h
  have := ones_cap l (i := i) (by rw [onesK_len] at hi; exact hi)
  simpa [List.getD, hi] using this
/-- an arc that is used has nothing left -/
def UInv (left : List Int) (us : List Bool) : Prop := us.length = left.length ∧ ∀ i, left.getD i 0 ≤ 1 ∧ (us.getD i false = true → left.getD i 0 ≤ 0)
theorem mark_ok : ∀ (is left : List Int) (us : List Bool) (left2 : List Int), lrSub 1 is left = some left2 → UInv left us → ∃ us2, dsMark is us = some us2 ∧ UInv left2 us2
  | [], left, us, left2, h, hI => ⟨us, rfl, by rw [← Option.some.inj h]; exact hI⟩
  | i :: is, left, us, left2, h, hI => by
    rw [lrSub] at h
    split at h
    · rename_i hg
      obtain ⟨h0, h1, h2⟩ := hg
      obtain ⟨i, rfl⟩ : ∃ q : Nat, i = (q : Int) := ⟨i.toNat, by omega⟩
      have hi := hI.2 i
      have hrd : rd left (i : Int) = left.getD i 0 := rfl
      rw [hrd] at h2 h
      have hu : us.getD i false = false := by
        cases hu : us.getD i false with
        | false => rfl
        | true => have := hi.2 hu; omega
      rw [show ((i : Int)).toNat = i from rfl] at h
      have hw : wrap64 (left.getD i 0 - 1) = 0 := by rw [show left.getD i 0 - 1 = 0 by omega]; exact wr0 (by omega) (by omega)
      rw [hw] at h
      have hI2 : UInv (left.set i 0) (us.set i true) := by
        refine ⟨by rw [List.length_set, List.length_set]; exact hI.1, fun j => ?_⟩
        have hj := hI.2 j
        simp only [List.getD_eq_getElem?_getD, List.getElem?_set] at hj ⊢
        by_cases c : i = j
        · subst c
          simp only [if_true]
          rw [if_pos (by omega), if_pos (by have := hI.1; omega)]
          simp
        · simp only [if_neg c]
          exact hj
      obtain ⟨us2, k1, k2⟩ := mark_ok is _ _ _ h hI2
      refine ⟨us2, ?_, k2⟩
      rw [dsMark, if_pos ⟨h0, by have := hI.1; omega, hu⟩]
      exact k1
    · cases h
theorem ds_ok {n : Int} {l : List S36} {s t : Int} : ∀ (rs : List S63) (left : List Int) (us : List Bool) (value : Int) (lf : List Int) (v : Int), lrAll n l s t rs left value = some (lf, v) → (∀ r ∈ rs, 1 ≤ r.f1) → UInv left us →
    ∃ u, dsAll n l s t rs us value = some (u, v)
  | [], left, us, value, lf, v, h, _, _ => by
    rw [lrAll] at h
    simp only [Option.some.injEq, Prod.mk.injEq] at h
    exact ⟨us, by rw [dsAll, h.2]⟩
  | r :: rs, left, us, value, lf, v, h, hr, hI => by
    rw [lrAll] at h
    obtain ⟨p, h1, h2⟩ := Option.bind_eq_some_iff.1 h
    obtain ⟨left2, h3, h4⟩ := Option.bind_eq_some_iff.1 h2
    have hne : 0 < r.f0.length := by
      unfold isRoute at h1
      split at h1
      · rename_i hg; exact hg.1
      · cases h1
    have hm := hr r (List.mem_cons_self ..)
    have h1m : r.f1 = 1 := by
      cases e : r.f0 with
      | nil => rw [e] at hne; simp at hne
      | cons i is =>
        rw [e, lrSub] at h3
        split at h3
        · rename_i hg
          have := (hI.2 i.toNat).1
          have hrd : rd left i = left.getD i.toNat 0 := rfl
          omega
        · cases h3
    rw [h1m] at h3 h4
    obtain ⟨us2, k1, k2⟩ := mark_ok _ _ _ _ h3 hI
    obtain ⟨u, k3⟩ := ds_ok rs left2 us2 _ lf v h4 (fun r hr' => hr r (List.mem_cons_of_mem _ hr')) k2
    exact ⟨u, by rw [dsAll, h1, Option.bind_some, if_pos h1m, k1, Option.bind_some]; exact k3⟩
theorem leave_ok {n : Nat} {sd : List Bool} (hsd : sd.length = n) : ∀ (l : List S36) (c : Int), okArcs (n : Int) l → (∀ a ∈ l, a.f2 = 1) → 0 ≤ c → c + l.length < 9223372036854775808 → dsLeave sd l c = some (c + cut sd l)
  | [], c, _, _, _, _ => by simp [dsLeave, cut]
  | a :: l, c, hok, h1, h0, hb => by
    rw [okArcs_cons] at hok
    have ha := hok.1
    unfold okArc at ha
    rw [List.length_cons] at hb
    have hc1 := h1 a (List.mem_cons_self ..)
    rw [dsLeave, if_pos ⟨by omega, by omega, by omega, by omega⟩, cut_cons]
    have hl := fun c' => leave_ok hsd l c' hok.2 (fun b hb' => h1 b (List.mem_cons_of_mem _ hb'))
    unfold cutOf rdOf
    split
    · rename_i hg
      rw [wr0 (by omega) (by omega), hl _ (by omega) (by omega), hc1, Int.add_assoc]
    · rw [hl _ h0 (by omega), Int.zero_add]
theorem FlowDisjoint_pure : FlowDisjoint_Pure := by
  intro v l s t _ hlg _ _
  refine Ev.rounds (g := fun k => codewrightlaw51_FlowDisjoint.f k v l s t) ?_
  unfold codewrightlaw51_FlowDisjoint.f
  refine Ev.bind alive_ev ?_
  simp only [if_true]
  obtain ⟨b, hb, _, _⟩ := few_ev v l
  refine Ev.bind hb ?_
  cases b with
  | false => simp only [Bool.false_eq_true, if_false]; exact Ev.same (fun _ => rfl)
  | true =>
    simp only [if_true, if_pos hlg.2]
    by_cases he : endsOf v (onesK l l.length) s t = 0
    · have hone := fun i hi => ones_cap l (i := i) hi
      have hmem := fun a h => ones_mem l (a := a) h
      have hlen := onesK_len l l.length
      generalize onesK l l.length = L at he hone hmem hlen
      obtain ⟨n, rfl⟩ := endsOf_nat he
      obtain ⟨hc, hs0, hs1, ht0, ht1, hst⟩ := endsOf_ok he
      obtain ⟨S, rfl⟩ : ∃ S : Nat, s = (S : Int) := ⟨s.toNat, by omega⟩
      obtain ⟨T, rfl⟩ : ∃ T : Nat, t = (T : Int) := ⟨t.toNat, by omega⟩
      obtain ⟨k1, k2, k3, k4⟩ := chk_ok hc
      obtain ⟨al, sd, hM, hB⟩ := Max_ev he
      have hcert := best_cert he hB
      have hval := best_val he hB
      refine Ev.bind hM ?_
      refine Ev.bind (ends_ref_ev _ L _ _) ?_
      rw [he]
      simp only [if_true]
      obtain ⟨rs, lf, h1, h2, h3, h4, h5⟩ := Routes_ok he hcert
      refine Ev.bind h1 ?_
      have hcut := hcert.2.1.1
      refine Ev.same (fun _ => ?_)
      rw [if_pos ⟨by first | trivial | rfl, by first | trivial | rfl, by omega, by omega⟩]
      have hI : UInv al (List.replicate l.length false) := by
        refine ⟨by rw [List.length_replicate, hcert.1.1, hlen], fun i => ⟨?_, fun h => ?_⟩⟩
        · by_cases c : i < L.length
          · have := (hcert.1.2.1 i c).2
            rw [hone i (by omega)] at this
            exact this
          · rw [List.getD_eq_getElem?_getD, List.getElem?_eq_none (by have := hcert.1.1; omega)]; decide
        · exfalso
          rw [List.getD_eq_getElem?_getD, List.getElem?_replicate] at h
          split at h <;> simp at h
      obtain ⟨u, h6⟩ := ds_ok rs al _ _ lf _ h2 h5 hI
      rw [h6, Option.bind_some, leave_ok hcut L 0 k4 hmem (Int.le_refl _) (by omega), Option.bind_some, Int.zero_add]
      rw [if_pos ⟨hval, rfl⟩]
    · refine Ev.bind (Max_no he) ?_
      refine Ev.bind (ends_ref_ev _ _ _ _) ?_
      simp only [if_neg he]
      exact Ev.same (fun _ => by rw [if_pos (by first | trivial | exact ⟨by first | trivial | rfl, by first | trivial | rfl, by first | trivial | rfl, by first | trivial | rfl⟩)])
end Go.Proofs.Ytidomjhihfoabaa.PF
