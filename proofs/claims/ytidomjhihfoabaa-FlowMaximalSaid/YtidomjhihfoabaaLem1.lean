/- Networks, their first error, cuts: what the program's and the reference's functions compute, as plain functions on lists. -/
import Derived.Test.YtidomjhihfoabaaPFx17
import Derived.Test.YtidomjhihfoabaaPFx18
import Derived.Test.YtidomjhihfoabaaPFx15
namespace Go.Proofs.Ytidomjhihfoabaa.PF
open Go.RowKit Go.Proofs.YtidomjhihfoabaaW.PrintWords Go.Proofs.YtidomjhihfoabaaW.PrintLast
set_option linter.unusedVariables false
set_option linter.unusedSimpArgs false

theorem Ev.same {α : Type} {g : Nat → Option α} {r : α} (h : ∀ k, g k = some r) : Ev g r := ⟨0, fun k _ => h k⟩
theorem Ev.unstep {α : Type} {g f : Nat → Option α} {r : α} (h : ∀ k, g (k + 1) = f k) (k : Ev g r) : Ev f r := by
  obtain ⟨K, hk⟩ := k
  exact ⟨K, fun n hn => by rw [← h]; exact hk (n + 1) (by omega)⟩
theorem Ev.unique {α : Type} {g : Nat → Option α} {r s : α} (h : Ev g r) (h' : Ev g s) : r = s := by
  obtain ⟨K, h⟩ := h
  obtain ⟨K', h'⟩ := h'
  have e1 := h (max K K') (Nat.le_max_left _ _)
  have e2 := h' (max K K') (Nat.le_max_right _ _)
  rw [e1] at e2
  exact Option.some.inj e2

theorem wr1 {i : Nat} (h : i < 4611686018427387904) : wrap64 ((i : Int) + 1) = ((i + 1 : Nat) : Int) := by
  unfold wrap64; omega
theorem wr0 {x : Int} (h0 : -9223372036854775808 ≤ x) (h1 : x ≤ 9223372036854775807) : wrap64 x = x := by
  unfold wrap64; omega
theorem rd_nat (l : List Int) (i : Nat) : rd l (i : Int) = l.getD i 0 := by simp [rd]
theorem rdOf_nat {α : Type} (d : α) (l : List α) (i : Nat) : rdOf d l (i : Int) = l.getD i d := by simp [rdOf]
theorem rd36_nat (l : List S36) (i : Nat) : rd_T36 l (i : Int) = l.getD i z36 := by simp [rd_T36]
theorem getD_drop {α : Type} (d : α) (l : List α) (i : Nat) (h : i < l.length) : l.drop i = l.getD i d :: l.drop (i + 1) := by
  rw [List.drop_eq_getElem_cons h]; simp [List.getD, h]

/-- an arc lies in a network of v vertices -/
def okArc (v : Int) (a : S36) : Prop := 0 ≤ a.f0 ∧ a.f0 < v ∧ 0 ≤ a.f1 ∧ a.f1 < v ∧ 0 ≤ a.f2 ∧ a.f2 ≤ 1099511627776
instance (v : Int) (a : S36) : Decidable (okArc v a) := by unfold okArc; infer_instance
def okArcs (v : Int) (l : List S36) : Prop := ∀ a ∈ l, okArc v a
instance (v : Int) (l : List S36) : Decidable (okArcs v l) := by unfold okArcs; infer_instance
/-- the first error of a network -/
def chk (v : Int) (l : List S36) : Int := if v < 1 ∨ v > 256 then 6 else if l.length > 1024 then 8 else if okArcs v l then 0 else 6
theorem okArcs_cons {v : Int} {a : S36} {l : List S36} : okArcs v (a :: l) ↔ okArc v a ∧ okArcs v l := by simp [okArcs]

theorem chk_l0 (v : Int) (l : List S36) (hl : l.length ≤ 1024) (d : Nat) : ∀ i : Nat, i + d = l.length →
    Ev (fun k => flow_CheckNetwork.l0 k l (l.length : Int) (i : Int) v l) (if okArcs v (l.drop i) then 0 else 6) := by
  induction d with
  | zero =>
    intro i hi
    refine Ev.step (fun _ => flow_CheckNetwork.l0.eq_2 ..) ?_
    rw [List.drop_of_length_le (by omega)]
    simp only [if_neg (show ¬ ((i : Int) < (l.length : Int)) by omega)]
    exact Ev.same (fun k => by simp [okArcs])
  | succ d ih =>
    intro i hi
    refine Ev.step (fun _ => flow_CheckNetwork.l0.eq_2 ..) ?_
    rw [getD_drop z36 l i (by omega), rd36_nat]
    simp only [if_pos (show ((i : Int) < (l.length : Int)) by omega), if_pos (show (0 : Int) ≤ (i : Int) by omega), wr1 (show i < 4611686018427387904 by omega)]
    have ih' := ih (i + 1) (by omega)
    generalize hx : l.getD i z36 = x
    simp only [okArcs_cons]
    by_cases h1 : x.f0 < 0
    · simp only [if_pos h1]; exact Ev.same (fun k => by rw [if_neg]; unfold okArc; omega)
    by_cases h2 : x.f0 ≥ v
    · simp only [if_neg h1, if_pos h2]; exact Ev.same (fun k => by rw [if_neg]; unfold okArc; omega)
    by_cases h3 : x.f1 < 0
    · simp only [if_neg h1, if_neg h2, if_pos h3]; exact Ev.same (fun k => by rw [if_neg]; unfold okArc; omega)
    by_cases h4 : x.f1 ≥ v
    · simp only [if_neg h1, if_neg h2, if_neg h3, if_pos h4]; exact Ev.same (fun k => by rw [if_neg]; unfold okArc; omega)
    by_cases h5 : x.f2 < 0
    · simp only [if_neg h1, if_neg h2, if_neg h3, if_neg h4, if_pos h5]; exact Ev.same (fun k => by rw [if_neg]; unfold okArc; omega)
    by_cases h6 : x.f2 > 1099511627776
    · simp only [if_neg h1, if_neg h2, if_neg h3, if_neg h4, if_neg h5, if_pos h6]; exact Ev.same (fun k => by rw [if_neg]; unfold okArc; omega)
    simp only [if_neg h1, if_neg h2, if_neg h3, if_neg h4, if_neg h5, if_neg h6]
    have hk : okArc v x := by unfold okArc; omega
    simp only [hk, true_and]
    exact ih'

theorem chk_ref_l0 (v : Int) (l : List S36) (hl : l.length ≤ 1024) (d : Nat) : ∀ i : Nat, i + d = l.length →
    Ev (fun k => codewrightref51_Check.l0 k (i : Int) v l) (if okArcs v (l.drop i) then 0 else 6) := by
  induction d with
  | zero =>
    intro i hi
    refine Ev.step (fun _ => codewrightref51_Check.l0.eq_2 ..) ?_
    rw [List.drop_of_length_le (by omega)]
    simp only [if_neg (show ¬ ((i : Int) < (l.length : Int)) by omega)]
    exact Ev.same (fun k => by simp [okArcs])
  | succ d ih =>
    intro i hi
    refine Ev.step (fun _ => codewrightref51_Check.l0.eq_2 ..) ?_
    rw [getD_drop z36 l i (by omega), rd36_nat]
    simp only [if_pos (show ((i : Int) < (l.length : Int)) by omega), if_pos (show (0 : Int) ≤ (i : Int) by omega), wr1 (show i < 4611686018427387904 by omega)]
    have ih' := ih (i + 1) (by omega)
    generalize hx : l.getD i z36 = x
    simp only [okArcs_cons]
    by_cases h1 : x.f0 < 0
    · simp only [if_pos h1]; exact Ev.same (fun k => by rw [if_neg]; unfold okArc; omega)
    by_cases h2 : x.f0 ≥ v
    · simp only [if_neg h1, if_pos h2]; exact Ev.same (fun k => by rw [if_neg]; unfold okArc; omega)
    by_cases h3 : x.f1 < 0
    · simp only [if_neg h1, if_neg h2, if_pos h3]; exact Ev.same (fun k => by rw [if_neg]; unfold okArc; omega)
    by_cases h4 : x.f1 ≥ v
    · simp only [if_neg h1, if_neg h2, if_neg h3, if_pos h4]; exact Ev.same (fun k => by rw [if_neg]; unfold okArc; omega)
    by_cases h5 : x.f2 < 0
    · simp only [if_neg h1, if_neg h2, if_neg h3, if_neg h4, if_pos h5]; exact Ev.same (fun k => by rw [if_neg]; unfold okArc; omega)
    by_cases h6 : x.f2 > 1099511627776
    · simp only [if_neg h1, if_neg h2, if_neg h3, if_neg h4, if_neg h5, if_pos h6]; exact Ev.same (fun k => by rw [if_neg]; unfold okArc; omega)
    simp only [if_neg h1, if_neg h2, if_neg h3, if_neg h4, if_neg h5, if_neg h6]
    have hk : okArc v x := by unfold okArc; omega
    simp only [hk, true_and]
    exact ih'

theorem check_ev (v : Int) (l : List S36) : Ev (fun k => flow_CheckNetwork.f k v l) (chk v l) := by
  unfold chk flow_CheckNetwork.f
  have key : ∀ b : Bool, (b = true ↔ (v < 1 ∨ v > 256)) → Ev (fun k => flow_CheckNetwork.j0 k b v l) (if v < 1 ∨ v > 256 then 6 else if l.length > 1024 then 8 else if okArcs v l then 0 else 6) := by
    intro b hb
    refine Ev.step (fun _ => flow_CheckNetwork.j0.eq_2 ..) ?_
    by_cases h : v < 1 ∨ v > 256
    · simp only [if_pos h, if_pos (hb.2 h)]; exact Ev.same (fun _ => rfl)
    · simp only [if_neg h, if_neg (fun e => h (hb.1 e))]
      by_cases h2 : l.length > 1024
      · simp only [if_pos h2, if_pos (show (l.length : Int) > 1024 by omega)]; exact Ev.same (fun _ => rfl)
      · simp only [if_neg h2, if_neg (show ¬ (l.length : Int) > 1024 by omega)]
        have := chk_l0 v l (by omega) l.length 0 (by omega)
        simpa using this
  by_cases h : v < 1
  · simp only [if_pos h]; exact key true (by simp [h]) |> fun x => by simpa [h] using x
  · simp only [if_neg h]; exact key _ (by simp; omega)

theorem check_ref_ev (v : Int) (l : List S36) : Ev (fun k => codewrightref51_Check.f k v l) (chk v l) := by
  unfold chk codewrightref51_Check.f
  have key : ∀ b : Bool, (b = true ↔ (v < 1 ∨ v > 256)) → Ev (fun k => codewrightref51_Check.j0 k b v l) (if v < 1 ∨ v > 256 then 6 else if l.length > 1024 then 8 else if okArcs v l then 0 else 6) := by
    intro b hb
    refine Ev.step (fun _ => codewrightref51_Check.j0.eq_2 ..) ?_
    by_cases h : v < 1 ∨ v > 256
    · simp only [if_pos h, if_pos (hb.2 h)]; exact Ev.same (fun _ => rfl)
    · simp only [if_neg h, if_neg (fun e => h (hb.1 e))]
      by_cases h2 : l.length > 1024
      · simp only [if_pos h2, if_pos (show (l.length : Int) > 1024 by omega)]; exact Ev.same (fun _ => rfl)
      · simp only [if_neg h2, if_neg (show ¬ (l.length : Int) > 1024 by omega)]
        have := chk_ref_l0 v l (by omega) l.length 0 (by omega)
        simpa using this
  by_cases h : v < 1
  · simp only [if_pos h]; exact key true (by simp [h]) |> fun x => by simpa [h] using x
  · simp only [if_neg h]; exact key _ (by simp; omega)

/-- what a network is told by its first error -/
theorem chk_ok {v : Int} {l : List S36} (h : chk v l = 0) : 1 ≤ v ∧ v ≤ 256 ∧ l.length ≤ 1024 ∧ okArcs v l := by
  unfold chk at h
  split at h
  · simp at h
  · split at h
    · simp at h
    · split at h
      · rename_i h1 h2 h3; exact ⟨by omega, by omega, by omega, h3⟩
      · simp at h

/-! ### cuts -/
/-- what an arc adds to the capacity of a cut -/
def cutOf (side : List Bool) (a : S36) : Int := if side.getD a.f0.toNat false = true ∧ side.getD a.f1.toNat false = false then a.f2 else 0
def cut (side : List Bool) (l : List S36) : Int := (l.map (cutOf side)).sum
theorem cut_cons (side : List Bool) (a : S36) (l : List S36) : cut side (a :: l) = cutOf side a + cut side l := by simp [cut]
theorem cutOf_le {v : Int} {side : List Bool} {a : S36} (h : okArc v a) : 0 ≤ cutOf side a ∧ cutOf side a ≤ 1099511627776 := by
  unfold okArc at h; unfold cutOf; split <;> omega
theorem cut_le {v : Int} {side : List Bool} {l : List S36} (h : okArcs v l) : 0 ≤ cut side l ∧ cut side l ≤ 1099511627776 * l.length := by
  induction l with
  | nil => simp [cut]
  | cons a l ih =>
    rw [okArcs_cons] at h
    have h1 := cutOf_le (side := side) h.1
    have h2 := ih h.2
    rw [cut_cons]
    simp only [List.length_cons]
    omega

theorem cap_l0 (v : Int) (l : List S36) (side : List Bool) (hv : (side.length : Int) = v) (hl : l.length ≤ 1024) (hok : okArcs v l) (d : Nat) : ∀ (i : Nat) (s : Int), i + d = l.length →
    0 ≤ s → s ≤ 1099511627776 * i →
    Ev (fun k => flow_capacity.l0 k side s l (l.length : Int) (i : Int)) (s + cut side (l.drop i)) := by
  induction d with
  | zero =>
    intro i s hi hs0 hs1
    refine Ev.step (fun _ => flow_capacity.l0.eq_2 ..) ?_
    rw [List.drop_of_length_le (by omega)]
    simp only [if_neg (show ¬ ((i : Int) < (l.length : Int)) by omega)]
    exact Ev.same (fun k => by simp [cut])
  | succ d ih =>
    intro i s hi hs0 hs1
    refine Ev.step (fun _ => flow_capacity.l0.eq_2 ..) ?_
    rw [getD_drop z36 l i (by omega), rd36_nat, cut_cons]
    have hx : okArc v (l.getD i z36) := hok _ (by simp [List.getD, show i < l.length by omega])
    generalize l.getD i z36 = x at hx
    have hc := cutOf_le (side := side) hx
    obtain ⟨h1, h2, h3, h4, h5, h6⟩ := hx
    simp only [if_pos (show ((i : Int) < (l.length : Int)) by omega), if_pos (show (0 : Int) ≤ (i : Int) by omega), wr1 (show i < 4611686018427387904 by omega), if_pos h1, if_pos h3, if_pos (show x.f0 < (side.length : Int) by omega), if_pos (show x.f1 < (side.length : Int) by omega)]
    unfold rdOf
    unfold cutOf at hc ⊢
    by_cases c1 : side.getD x.f0.toNat false = true
    · by_cases c2 : side.getD x.f1.toNat false = true
      · simp only [if_pos c1, if_pos c2]
        have := ih (i + 1) s (by omega) hs0 (by omega)
        rw [if_neg (fun h => by rw [c2] at h; exact absurd h.2 (by decide))]
        simpa using this
      · simp only [if_pos c1, if_neg c2]
        have := ih (i + 1) (s + x.f2) (by omega) (by omega) (by omega)
        rw [if_pos ⟨c1, by simpa using c2⟩]
        rw [wr0 (by omega) (by omega)]
        simpa [Int.add_assoc] using this
    · simp only [if_neg c1]
      have := ih (i + 1) s (by omega) hs0 (by omega)
      rw [if_neg (fun h => c1 h.1)]
      simpa using this

theorem cut_ref_l0 (v : Int) (l : List S36) (side : List Bool) (hv : (side.length : Int) = v) (hl : l.length ≤ 1024) (hok : okArcs v l) (d : Nat) : ∀ (i : Nat) (s : Int), i + d = l.length →
    0 ≤ s → s ≤ 1099511627776 * i →
    Ev (fun k => codewrightref51_Cut.l0 k side s (i : Int) v l) (s + cut side (l.drop i), 0) := by
  induction d with
  | zero =>
    intro i s hi hs0 hs1
    refine Ev.step (fun _ => codewrightref51_Cut.l0.eq_2 ..) ?_
    rw [List.drop_of_length_le (by omega)]
    simp only [if_neg (show ¬ ((i : Int) < (l.length : Int)) by omega)]
    exact Ev.same (fun k => by simp [cut])
  | succ d ih =>
    intro i s hi hs0 hs1
    refine Ev.step (fun _ => codewrightref51_Cut.l0.eq_2 ..) ?_
    rw [getD_drop z36 l i (by omega), rd36_nat, cut_cons]
    have hx : okArc v (l.getD i z36) := hok _ (by simp [List.getD, show i < l.length by omega])
    generalize l.getD i z36 = x at hx
    have hc := cutOf_le (side := side) hx
    obtain ⟨h1, h2, h3, h4, h5, h6⟩ := hx
    simp only [if_pos (show ((i : Int) < (l.length : Int)) by omega), if_pos (show (0 : Int) ≤ (i : Int) by omega), wr1 (show i < 4611686018427387904 by omega), if_pos h1, if_pos h3, if_pos (show x.f0 < (side.length : Int) by omega), if_pos (show x.f1 < (side.length : Int) by omega)]
    unfold rdOf
    unfold cutOf at hc ⊢
    by_cases c1 : side.getD x.f0.toNat false = true
    · by_cases c2 : side.getD x.f1.toNat false = true
      · simp only [if_pos c1, if_pos c2]
        have := ih (i + 1) s (by omega) hs0 (by omega)
        rw [if_neg (fun h => by rw [c2] at h; exact absurd h.2 (by decide))]
        simpa using this
      · simp only [if_pos c1, if_neg c2]
        have := ih (i + 1) (s + x.f2) (by omega) (by omega) (by omega)
        rw [if_pos ⟨c1, by simpa using c2⟩]
        rw [wr0 (by omega) (by omega)]
        simpa [Int.add_assoc] using this
    · simp only [if_neg c1]
      have := ih (i + 1) s (by omega) hs0 (by omega)
      rw [if_neg (fun h => c1 h.1)]
      simpa using this

theorem cap_ev {v : Int} {l : List S36} {side : List Bool} (h : chk v l = 0) (hv : (side.length : Int) = v) : Ev (fun k => flow_capacity.f k v l side) (cut side l) := by
  obtain ⟨h1, h2, h3, h4⟩ := chk_ok h
  have := cap_l0 v l side hv h3 h4 l.length 0 0 (by omega) (by omega) (by omega)
  simpa [flow_capacity.f] using this

/-- what Cut answers -/
def cutAns (v : Int) (l : List S36) (side : List Bool) : Int × Int := if chk v l = 0 then (if (side.length : Int) = v then (cut side l, 0) else (0, 3)) else (0, chk v l)
theorem Cut_ev (v : Int) (l : List S36) (side : List Bool) : Ev (fun k => flow_Cut.f k v l side) (cutAns v l side) := by
  unfold cutAns flow_Cut.f
  refine Ev.bind (check_ev v l) ?_
  by_cases h : chk v l = 0
  · simp only [if_pos h]
    by_cases h2 : (side.length : Int) = v
    · simp only [if_pos h2]
      exact Ev.bind (cap_ev h h2) (Ev.same (fun _ => rfl))
    · simp only [if_neg h2]; exact Ev.same (fun _ => rfl)
  · simp only [if_neg h]; exact Ev.same (fun _ => rfl)
theorem Cut_ref_ev (v : Int) (l : List S36) (side : List Bool) : Ev (fun k => codewrightref51_Cut.f k v l side) (cutAns v l side) := by
  unfold cutAns codewrightref51_Cut.f
  refine Ev.bind (check_ref_ev v l) ?_
  by_cases h : chk v l = 0
  · simp only [if_pos h]
    by_cases h2 : (side.length : Int) = v
    · simp only [if_pos h2]
      obtain ⟨h3, h4, h5, h6⟩ := chk_ok h
      have := cut_ref_l0 v l side h2 h5 h6 l.length 0 0 (by omega) (by omega) (by omega)
      simpa using this
    · simp only [if_neg h2]; exact Ev.same (fun _ => rfl)
  · simp only [if_neg h]; exact Ev.same (fun _ => rfl)

theorem alive_ev : Ev (fun k => codewrightlaw51_alive.f k) true := by
  unfold codewrightlaw51_alive.f
  refine Ev.bind (Cut_ev _ _ _) ?_
  exact Ev.same (fun _ => by decide)
end Go.Proofs.Ytidomjhihfoabaa.PF
