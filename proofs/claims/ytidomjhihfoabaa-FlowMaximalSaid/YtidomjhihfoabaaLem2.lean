/- Flows: what flows out of a vertex, the reference's test of a flow, and the certified flows, as plain functions on lists. -/
import Derived.Test.YtidomjhihfoabaaLem1
import Derived.Test.YtidomjhihfoabaaPFx25
import Derived.Test.YtidomjhihfoabaaPFx26
import Derived.Test.YtidomjhihfoabaaPFx38
namespace Go.Proofs.Ytidomjhihfoabaa.PF
open Go.RowKit Go.Proofs.YtidomjhihfoabaaW.PrintWords Go.Proofs.YtidomjhihfoabaaW.PrintLast
set_option linter.unusedVariables false
set_option linter.unusedSimpArgs false

/-- a statement's truth -/
noncomputable def B (p : Prop) : Bool := @decide p (Classical.propDecidable p)
theorem B_true {p : Prop} (h : p) : B p = true := by unfold B; simp [h]
theorem B_false {p : Prop} (h : ¬ p) : B p = false := by unfold B; simp [h]
theorem B_iff {p : Prop} : B p = true ↔ p := by unfold B; simp
theorem B_congr {p q : Prop} (h : p ↔ q) : B p = B q := by rw [propext h]

/-- what an arc with x on it adds to what flows out of v -/
def flowAt (v : Int) (a : S36) (x : Int) : Int := (if a.f0 = v then x else 0) - (if a.f1 = v then x else 0)
/-- what flows out of v less what flows into it, over the first arcs -/
def netTo (v : Int) (l : List S36) (al : List Int) : Nat → Int
  | 0 => 0
  | i + 1 => netTo v l al i + flowAt v (l.getD i z36) (al.getD i 0)
def netAt (v : Int) (l : List S36) (al : List Int) : Int := netTo v l al l.length

theorem netTo_bound (v : Int) (l : List S36) (al : List Int) (i : Nat) (h : ∀ j, j < i → 0 ≤ al.getD j 0 ∧ al.getD j 0 ≤ 1099511627776) : -(1099511627776 * (i : Int)) ≤ netTo v l al i ∧ netTo v l al i ≤ 1099511627776 * (i : Int) := by
  induction i with
  | zero => simp [netTo]
  | succ i ih =>
    have h1 := ih (fun j hj => h j (by omega))
    have h2 := h i (by omega)
    simp only [netTo, flowAt]
    split <;> split <;> omega

def netList (n : Nat) (l : List S36) (al : List Int) (i : Nat) : List Int := (List.range n).map (fun u : Nat => netTo (u : Int) l al i)
theorem netList_length (n : Nat) (l : List S36) (al : List Int) (i : Nat) : (netList n l al i).length = n := by simp [netList]
theorem netList_get {n : Nat} {l : List S36} {al : List Int} {i j : Nat} (h : j < n) : (netList n l al i).getD j 0 = netTo (j : Int) l al i := by
  simp [netList, List.getD, h]
theorem netList_zero (n : Nat) (l : List S36) (al : List Int) : List.replicate n (0 : Int) = netList n l al 0 := by
  apply List.ext_getElem
  · simp [netList]
  · intro j h1 h2; simp [netList, netTo]

theorem net_step {n i a b : Nat} {l : List S36} {al : List Int} (ha : a < n) (hb : b < n) (hA : (l.getD i z36).f0 = (a : Int)) (hB : (l.getD i z36).f1 = (b : Int)) :
    ((netList n l al i).set a (netTo (a : Int) l al i + al.getD i 0)).set b (((netList n l al i).set a (netTo (a : Int) l al i + al.getD i 0)).getD b 0 - al.getD i 0) = netList n l al (i + 1) := by
  apply List.ext_getElem
  · simp [netList]
  · intro j h1 h2
    have hj : j < n := by simpa [netList] using h2
    simp only [netList, List.getElem_set, List.getElem_map, List.getElem_range, List.getD, netTo, flowAt] at *
    simp only [List.getElem?_set, List.getElem?_map, List.length_map, List.length_range, List.getElem?_range, ha, hb, if_true, hA, hB, Int.natCast_inj] at *
    by_cases e1 : b = j
    · subst e1
      by_cases e2 : a = b
      · subst e2; simp
      · simp [e2, hj]; omega
    · by_cases e2 : a = j
      · subst e2; simp [e1, hj]
      · simp [e1, e2, hj]

/-- each arc has from 0 to its capacity -/
def okAl (l : List S36) (al : List Int) : Prop := ∀ j, j < l.length → 0 ≤ al.getD j 0 ∧ al.getD j 0 ≤ (l.getD j z36).f2
theorem okAl_cap {v : Int} {l : List S36} {al : List Int} (h : okAl l al) (hok : okArcs v l) : ∀ j, j < l.length → 0 ≤ al.getD j 0 ∧ al.getD j 0 ≤ 1099511627776 := by
  intro j hj
  have h1 := h j hj
  have h2 : okArc v (l.getD j z36) := hok _ (by simp [List.getD, hj])
  unfold okArc at h2
  omega
/-- the reference's flows -/
def isFlow (n : Nat) (l : List S36) (s t : Int) (al : List Int) : Prop :=
  al.length = l.length ∧ okAl l al ∧ ∀ u : Nat, u < n → (u : Int) ≠ s → (u : Int) ≠ t → netAt (u : Int) l al = 0

theorem isFlow_l1 (n : Nat) (l : List S36) (s t : Int) (al : List Int) (hn : n ≤ 256) (hlen : al.length = l.length) (hal : okAl l al) (d : Nat) : ∀ i : Nat, i + d = n →
    (∀ u : Nat, u < i → (u : Int) ≠ s → (u : Int) ≠ t → netAt (u : Int) l al = 0) →
    Ev (fun k => codewrightref51_IsFlow.l1 k s t (netList n l al l.length) (i : Int) (n : Int) l) (B (isFlow n l s t al)) := by
  induction d with
  | zero =>
    intro i hi hu
    refine Ev.step (fun _ => codewrightref51_IsFlow.l1.eq_2 ..) ?_
    simp only [if_neg (show ¬ ((i : Int) < (n : Int)) by omega)]
    refine Ev.same (fun k => ?_)
    rw [B_true]
    exact ⟨hlen, hal, fun u h => hu u (by omega)⟩
  | succ d ih =>
    intro i hi hu
    refine Ev.step (fun _ => codewrightref51_IsFlow.l1.eq_2 ..) ?_
    simp only [if_pos (show ((i : Int) < (n : Int)) by omega), if_pos (show (0 : Int) ≤ (i : Int) by omega), wr1 (show i < 4611686018427387904 by omega), netList_length, rd_nat, netList_get (show i < n by omega)]
    have next : ((i : Int) ≠ s → (i : Int) ≠ t → netAt (i : Int) l al = 0) → Ev (fun k => codewrightref51_IsFlow.l1 k s t (netList n l al l.length) ((i + 1 : Nat) : Int) (n : Int) l) (B (isFlow n l s t al)) := by
      intro h
      refine ih (i + 1) (by omega) (fun u h1 h2 h3 => ?_)
      by_cases e : u = i
      · subst e; exact h h2 h3
      · exact hu u (by omega) h2 h3
    by_cases c1 : (i : Int) = s
    · simp only [if_pos c1]; exact next (fun h => absurd c1 h)
    by_cases c2 : (i : Int) = t
    · simp only [if_neg c1, if_pos c2]; exact next (fun _ h => absurd c2 h)
    by_cases c3 : netTo (i : Int) l al l.length = 0
    · simp only [if_neg c1, if_neg c2, if_pos c3]; exact next (fun _ _ => c3)
    · simp only [if_neg c1, if_neg c2, if_neg c3]
      refine Ev.same (fun k => ?_)
      rw [B_false]
      intro h
      exact c3 (h.2.2 i (by omega) c1 c2)

theorem isFlow_l0 (n : Nat) (l : List S36) (s t : Int) (al : List Int) (hn : n ≤ 256) (hl : l.length ≤ 1024) (hok : okArcs (n : Int) l) (hlen : al.length = l.length) (d : Nat) : ∀ i : Nat, i + d = l.length →
    (∀ j, j < i → 0 ≤ al.getD j 0 ∧ al.getD j 0 ≤ (l.getD j z36).f2) →
    Ev (fun k => codewrightref51_IsFlow.l0 k s t al (netList n l al i) (i : Int) (n : Int) l) (B (isFlow n l s t al)) := by
  induction d with
  | zero =>
    intro i hi hj
    refine Ev.step (fun _ => codewrightref51_IsFlow.l0.eq_2 ..) ?_
    simp only [if_neg (show ¬ ((i : Int) < (al.length : Int)) by omega)]
    rw [show i = l.length by omega]
    exact isFlow_l1 n l s t al hn hlen (fun j h => hj j (by omega)) n 0 (by omega) (fun u h => absurd h (by omega))
  | succ d ih =>
    intro i hi hj
    refine Ev.step (fun _ => codewrightref51_IsFlow.l0.eq_2 ..) ?_
    have hx : okArc (n : Int) (l.getD i z36) := hok _ (by simp [List.getD, show i < l.length by omega])
    obtain ⟨a, hA⟩ : ∃ a : Nat, (l.getD i z36).f0 = (a : Int) := ⟨(l.getD i z36).f0.toNat, by unfold okArc at hx; omega⟩
    obtain ⟨b, hB⟩ : ∃ b : Nat, (l.getD i z36).f1 = (b : Int) := ⟨(l.getD i z36).f1.toNat, by unfold okArc at hx; omega⟩
    have ha : a < n := by unfold okArc at hx; omega
    have hb : b < n := by unfold okArc at hx; omega
    have hcap : (l.getD i z36).f2 ≤ 1099511627776 := by unfold okArc at hx; omega
    have hal : ∀ j, j < i → 0 ≤ al.getD j 0 ∧ al.getD j 0 ≤ 1099511627776 := by
      intro j h
      have h1 := hj j h
      have h2 : okArc (n : Int) (l.getD j z36) := hok _ (by simp [List.getD, show j < l.length by omega])
      unfold okArc at h2
      omega
    have hs := net_step (al := al) ha hb hA hB
    have b1 := netTo_bound (a : Int) l al i hal
    rw [rd36_nat, rd_nat al]
    simp only [hA, hB, if_pos (show ((i : Int) < (l.length : Int)) by omega), if_pos (show (0 : Int) ≤ (i : Int) by omega), wr1 (show i < 4611686018427387904 by omega), Int.toNat_natCast, List.length_set, netList_length, if_pos (show (0 : Int) ≤ (a : Int) by omega), if_pos (show (0 : Int) ≤ (b : Int) by omega), if_pos (show (a : Int) < (n : Int) by omega), if_pos (show (b : Int) < (n : Int) by omega), if_pos (show (i : Int) < (al.length : Int) by omega), Option.bind_some, rd_nat, netList_get ha]
    by_cases c1 : al.getD i 0 < 0
    · simp only [if_pos c1]
      refine Ev.same (fun k => ?_)
      rw [B_false]
      intro h
      have := h.2.1 i (by omega)
      omega
    by_cases c2 : al.getD i 0 > (l.getD i z36).f2
    · simp only [if_neg c1, if_pos c2]
      refine Ev.same (fun k => ?_)
      rw [B_false]
      intro h
      have := h.2.1 i (by omega)
      omega
    simp only [if_neg c1, if_neg c2]
    have b2 := netTo_bound (b : Int) l al (i + 1) (fun j h => by
      by_cases e : j = i
      · subst e; omega
      · exact hal j (by omega))
    rw [wr0 (x := netTo (a : Int) l al i + al.getD i 0) (by omega) (by omega)]
    have e1 : ((netList n l al i).set a (netTo (a : Int) l al i + al.getD i 0)).getD b 0 - al.getD i 0 = netTo (b : Int) l al (i + 1) := by
      have := congrArg (fun z => z.getD b 0) hs
      simp only [netList_get hb] at this
      rw [← this]
      simp [List.getD, netList, hb]
    rw [wr0 (x := ((netList n l al i).set a (netTo (a : Int) l al i + al.getD i 0)).getD b 0 - al.getD i 0) (by rw [e1]; omega) (by rw [e1]; omega), hs]
    refine ih (i + 1) (by omega) (fun j h => ?_)
    by_cases e : j = i
    · subst e; omega
    · exact hj j (by omega)

theorem isFlow_ev {n : Nat} {l : List S36} (h : chk (n : Int) l = 0) (s t : Int) (al : List Int) : Ev (fun k => codewrightref51_IsFlow.f k (n : Int) l s t al) (B (isFlow n l s t al)) := by
  obtain ⟨h1, h2, h3, h4⟩ := chk_ok h
  unfold codewrightref51_IsFlow.f
  by_cases c : al.length = l.length
  · simp only [if_pos (show (al.length : Int) = (l.length : Int) by omega), if_pos (show (0 : Int) ≤ (n : Int) by omega), Int.toNat_natCast, if_pos (show n ≤ 35184372088832 by omega)]
    rw [netList_zero n l al]
    simpa using isFlow_l0 n l s t al (by omega) h3 h4 c l.length 0 (by omega) (fun j h => absurd h (by omega))
  · simp only [if_neg (show ¬ (al.length : Int) = (l.length : Int) by omega)]
    refine Ev.same (fun k => ?_)
    rw [B_false]
    exact fun h => c h.1

/-- the reference's cuts -/
def isCut (n : Nat) (s t : Int) (side : List Bool) : Prop := side.length = n ∧ side.getD s.toNat false = true ∧ side.getD t.toNat false = false
theorem isCut_eq {n : Nat} (l : List S36) {s t : Int} (side : List Bool) (hs0 : 0 ≤ s) (hs1 : s < n) (ht0 : 0 ≤ t) (ht1 : t < n) : codewrightref51_IsCut.f (n : Int) l s t side = some (B (isCut n s t side)) := by
  unfold codewrightref51_IsCut.f rdOf
  by_cases c : side.length = n
  · rw [if_pos (by omega), if_pos hs0, if_pos (by omega)]
    by_cases c1 : side.getD s.toNat false = true
    · rw [if_pos c1, if_pos ht0, if_pos (by omega)]
      by_cases c2 : side.getD t.toNat false = true
      · rw [c2, B_false]; rfl
        intro h
        have := h.2.2
        rw [c2] at this
        exact absurd this (by decide)
      · have c2' : side.getD t.toNat false = false := by simpa using c2
        rw [c2', B_true ⟨c, c1, c2'⟩]; rfl
    · rw [if_neg c1, B_false]
      exact fun h => c1 h.2.1
  · rw [if_neg (by omega), B_false]
    exact fun h => c h.1

/-- the error of a network with a source and a sink -/
def endsOf (v : Int) (l : List S36) (s t : Int) : Int := if chk v l = 0 then (if s < 0 ∨ s ≥ v ∨ t < 0 ∨ t ≥ v then 6 else if s = t then 10 else 0) else chk v l
theorem endsOf_ok {v : Int} {l : List S36} {s t : Int} (h : endsOf v l s t = 0) : chk v l = 0 ∧ 0 ≤ s ∧ s < v ∧ 0 ≤ t ∧ t < v ∧ s ≠ t := by
  unfold endsOf at h
  split at h
  · rename_i h1
    split at h
    · simp at h
    · split at h
      · simp at h
      · refine ⟨h1, ?_⟩; omega
  · exact absurd h (by assumption)

theorem ends_j0 (s t : Int) (b : Bool) : Ev (fun k => flow_ends.j0 k s t b) (if b = true then 6 else if s = t then 10 else 0) := by
  refine Ev.step (fun _ => flow_ends.j0.eq_2 ..) ?_
  refine Ev.same (fun k => ?_)
  split
  · rfl
  · split <;> rfl
theorem ends_ev (v : Int) (l : List S36) (s t : Int) : Ev (fun k => flow_ends.f k v l s t) (endsOf v l s t) := by
  unfold endsOf flow_ends.f
  refine Ev.bind (check_ev v l) ?_
  by_cases c : chk v l = 0
  · simp only [if_pos c]
    have j := ends_j0 s t
    by_cases c1 : s < 0
    · simp only [if_pos c1, if_pos (show s < 0 ∨ s ≥ v ∨ t < 0 ∨ t ≥ v by omega)]; simpa using j true
    by_cases c2 : s ≥ v
    · simp only [if_neg c1, if_pos c2, if_pos (show s < 0 ∨ s ≥ v ∨ t < 0 ∨ t ≥ v by omega)]; simpa using j true
    by_cases c3 : t < 0
    · simp only [if_neg c1, if_neg c2, if_pos c3, if_pos (show s < 0 ∨ s ≥ v ∨ t < 0 ∨ t ≥ v by omega)]; simpa using j true
    simp only [if_neg c1, if_neg c2, if_neg c3]
    by_cases c4 : t ≥ v
    · have := j (decide (t ≥ v))
      rw [if_pos (show s < 0 ∨ s ≥ v ∨ t < 0 ∨ t ≥ v by omega)]
      simpa [c4] using this
    · have := j (decide (t ≥ v))
      rw [if_neg (show ¬ (s < 0 ∨ s ≥ v ∨ t < 0 ∨ t ≥ v) by omega)]
      simpa [c4] using this
  · simp only [if_neg c]; exact Ev.same (fun _ => rfl)
theorem ends_ref_j0 (s t : Int) (b : Bool) : Ev (fun k => codewrightref51_Ends.j0 k s t b) (if b = true then 6 else if s = t then 10 else 0) := by
  refine Ev.step (fun _ => codewrightref51_Ends.j0.eq_2 ..) ?_
  refine Ev.same (fun k => ?_)
  split
  · rfl
  · split <;> rfl
theorem ends_ref_ev (v : Int) (l : List S36) (s t : Int) : Ev (fun k => codewrightref51_Ends.f k v l s t) (endsOf v l s t) := by
  unfold endsOf codewrightref51_Ends.f
  refine Ev.bind (check_ref_ev v l) ?_
  by_cases c : chk v l = 0
  · simp only [if_pos c]
    have j := ends_ref_j0 s t
    by_cases c1 : s < 0
    · simp only [if_pos c1, if_pos (show s < 0 ∨ s ≥ v ∨ t < 0 ∨ t ≥ v by omega)]; simpa using j true
    by_cases c2 : s ≥ v
    · simp only [if_neg c1, if_pos c2, if_pos (show s < 0 ∨ s ≥ v ∨ t < 0 ∨ t ≥ v by omega)]; simpa using j true
    by_cases c3 : t < 0
    · simp only [if_neg c1, if_neg c2, if_pos c3, if_pos (show s < 0 ∨ s ≥ v ∨ t < 0 ∨ t ≥ v by omega)]; simpa using j true
    simp only [if_neg c1, if_neg c2, if_neg c3]
    by_cases c4 : t ≥ v
    · have := j (decide (t ≥ v))
      rw [if_pos (show s < 0 ∨ s ≥ v ∨ t < 0 ∨ t ≥ v by omega)]
      simpa [c4] using this
    · have := j (decide (t ≥ v))
      rw [if_neg (show ¬ (s < 0 ∨ s ≥ v ∨ t < 0 ∨ t ≥ v) by omega)]
      simpa [c4] using this
  · simp only [if_neg c]; exact Ev.same (fun _ => rfl)

/-- the reference's Value, its entries in range -/
def okVal (l : List S36) (al : List Int) : Prop := ∀ j, j < l.length → 0 ≤ al.getD j 0 ∧ al.getD j 0 ≤ 1099511627776
noncomputable def valAns (v : Int) (l : List S36) (al : List Int) (u : Int) : Int × Int :=
  if chk v l = 0 then (if al.length = l.length then (if B (okVal l al) = true then (if u < 0 ∨ u ≥ v then (0, 6) else (netAt u l al, 0)) else (0, 6)) else (0, 3)) else (0, chk v l)

theorem val_l1 (v : Int) (l : List S36) (al : List Int) (u : Int) (hl : l.length ≤ 1024) (hlen : al.length = l.length) (hal : okVal l al) (d : Nat) : ∀ i : Nat, i + d = l.length →
    Ev (fun k => codewrightref51_Value.l1 k al u (netTo u l al i) (i : Int) v l) (netAt u l al, 0) := by
  induction d with
  | zero =>
    intro i hi
    refine Ev.step (fun _ => codewrightref51_Value.l1.eq_2 ..) ?_
    simp only [if_neg (show ¬ ((i : Int) < (al.length : Int)) by omega)]
    exact Ev.same (fun k => by rw [show i = l.length by omega]; rfl)
  | succ d ih =>
    intro i hi
    refine Ev.step (fun _ => codewrightref51_Value.l1.eq_2 ..) ?_
    have ih' := ih (i + 1) (by omega)
    have b1 := netTo_bound u l al i (fun j h => hal j (by omega))
    have b2 := netTo_bound u l al (i + 1) (fun j h => hal j (by omega))
    have b3 := hal i (by omega)
    rw [rd36_nat, rd_nat al]
    simp only [if_pos (show ((i : Int) < (l.length : Int)) by omega), if_pos (show ((i : Int) < (al.length : Int)) by omega), if_pos (show (0 : Int) ≤ (i : Int) by omega), wr1 (show i < 4611686018427387904 by omega)]
    simp only [netTo, flowAt] at ih' b2
    by_cases c1 : (l.getD i z36).f0 = u
    · by_cases c2 : (l.getD i z36).f1 = u
      · simp only [if_pos c1, if_pos c2] at ih' b2 ⊢
        rw [wr0 (x := netTo u l al i + al.getD i 0) (by omega) (by omega), wr0 (by omega) (by omega)]
        rw [show netTo u l al i + al.getD i 0 - al.getD i 0 = netTo u l al i + (al.getD i 0 - al.getD i 0) by omega]
        exact ih'
      · simp only [if_pos c1, if_neg c2] at ih' b2 ⊢
        rw [wr0 (x := netTo u l al i + al.getD i 0) (by omega) (by omega)]
        simpa using ih'
    · by_cases c2 : (l.getD i z36).f1 = u
      · simp only [if_neg c1, if_pos c2] at ih' b2 ⊢
        rw [wr0 (by omega) (by omega), show netTo u l al i - al.getD i 0 = netTo u l al i + (0 - al.getD i 0) by omega]
        exact ih'
      · simp only [if_neg c1, if_neg c2] at ih' b2 ⊢
        simpa using ih'
theorem val_j1 (v : Int) (l : List S36) (al : List Int) (u : Int) (hl : l.length ≤ 1024) (hlen : al.length = l.length) (hal : okVal l al) (b : Bool) :
    Ev (fun k => codewrightref51_Value.j1 k al u b v l) (if b = true then (0, 6) else (netAt u l al, 0)) := by
  refine Ev.step (fun _ => codewrightref51_Value.j1.eq_2 ..) ?_
  by_cases c : b = true
  · simp only [if_pos c]; exact Ev.same (fun _ => rfl)
  · simp only [if_neg c]
    simpa [netTo] using val_l1 v l al u hl hlen hal l.length 0 (by omega)
theorem val_l0 (v : Int) (l : List S36) (al : List Int) (u : Int) (hl : l.length ≤ 1024) (hlen : al.length = l.length) (d : Nat) : ∀ i : Nat, i + d = l.length →
    (∀ j, j < i → 0 ≤ al.getD j 0 ∧ al.getD j 0 ≤ 1099511627776) →
    Ev (fun k => codewrightref51_Value.l0 k al u (i : Int) v l) (if B (okVal l al) = true then (if u < 0 ∨ u ≥ v then (0, 6) else (netAt u l al, 0)) else (0, 6)) := by
  induction d with
  | zero =>
    intro i hi hj
    have hal : okVal l al := fun j h => hj j (by omega)
    refine Ev.step (fun _ => codewrightref51_Value.l0.eq_2 ..) ?_
    simp only [if_neg (show ¬ ((i : Int) < (al.length : Int)) by omega), B_true hal, if_true]
    have J := val_j1 v l al u hl hlen hal
    by_cases c : u < 0
    · simp only [if_pos c, if_pos (show u < 0 ∨ u ≥ v by omega)]; simpa using J true
    · simp only [if_neg c]
      have := J (decide (u ≥ v))
      by_cases c2 : u ≥ v
      · rw [if_pos (show u < 0 ∨ u ≥ v by omega)]; simpa [c2] using this
      · rw [if_neg (show ¬ (u < 0 ∨ u ≥ v) by omega)]; simpa [c2] using this
  | succ d ih =>
    intro i hi hj
    refine Ev.step (fun _ => codewrightref51_Value.l0.eq_2 ..) ?_
    rw [rd_nat al]
    simp only [if_pos (show ((i : Int) < (al.length : Int)) by omega), if_pos (show (0 : Int) ≤ (i : Int) by omega), wr1 (show i < 4611686018427387904 by omega)]
    by_cases c1 : al.getD i 0 < 0
    · simp only [if_pos c1]
      refine Ev.same (fun k => ?_)
      rw [B_false, if_neg (by decide)]
      intro h
      have := h i (by omega)
      omega
    by_cases c2 : al.getD i 0 > 1099511627776
    · simp only [if_neg c1, if_pos c2]
      refine Ev.same (fun k => ?_)
      rw [B_false, if_neg (by decide)]
      intro h
      have := h i (by omega)
      omega
    simp only [if_neg c1, if_neg c2]
    refine ih (i + 1) (by omega) (fun j h => ?_)
    by_cases e : j = i
    · subst e; omega
    · exact hj j (by omega)
theorem val_ref_ev (v : Int) (l : List S36) (al : List Int) (u : Int) : Ev (fun k => codewrightref51_Value.f k v l al u) (valAns v l al u) := by
  unfold valAns codewrightref51_Value.f
  refine Ev.bind (check_ref_ev v l) ?_
  by_cases c : chk v l = 0
  · obtain ⟨h1, h2, h3, h4⟩ := chk_ok c
    simp only [if_pos c]
    by_cases c2 : al.length = l.length
    · simp only [if_pos c2, if_pos (show (al.length : Int) = (l.length : Int) by omega)]
      simpa using val_l0 v l al u h3 c2 l.length 0 (by omega) (fun j h => absurd h (by omega))
    · simp only [if_neg c2, if_neg (show ¬ (al.length : Int) = (l.length : Int) by omega)]; exact Ev.same (fun _ => rfl)
  · simp only [if_neg c]; exact Ev.same (fun _ => rfl)

/-- the certified flows -/
def isCert (n : Nat) (l : List S36) (s t : Int) (val : Int) (al : List Int) (side : List Bool) : Prop :=
  isFlow n l s t al ∧ isCut n s t side ∧ netAt s l al = val ∧ cut side l = val

/-- what Check answers -/
noncomputable def checkAns (v : Int) (l : List S36) (s t val : Int) (al : List Int) (side : List Bool) : Int :=
  if endsOf v l s t = 0 then (if B (isCert v.toNat l s t val al side) = true then 0 else 13) else endsOf v l s t
theorem endsOf_nat {v : Int} {l : List S36} {s t : Int} (he : endsOf v l s t = 0) : ∃ n : Nat, v = (n : Int) := by
  obtain ⟨h, _⟩ := endsOf_ok he
  have := chk_ok h
  exact ⟨v.toNat, by omega⟩
theorem Accept_ev (v : Int) (l : List S36) (s t val : Int) (al : List Int) (side : List Bool) : Ev (fun k => codewrightref51_Accept.f k v l s t val al side) (checkAns v l s t val al side) := by
  unfold checkAns codewrightref51_Accept.f
  refine Ev.bind (ends_ref_ev v l s t) ?_
  by_cases c : endsOf v l s t = 0
  · simp only [if_pos c]
    obtain ⟨n, rfl⟩ := endsOf_nat c
    obtain ⟨h, hs0, hs1, ht0, ht1, hst⟩ := endsOf_ok c
    simp only [Int.toNat_natCast]
    refine Ev.bind (isFlow_ev h s t al) ?_
    by_cases c1 : isFlow n l s t al
    · simp only [B_true c1, if_true, isCut_eq l side hs0 hs1 ht0 ht1, Option.bind_some]
      refine Ev.step (fun _ => codewrightref51_Accept.j0.eq_2 ..) ?_
      by_cases c2 : isCut n s t side
      · simp only [B_true c2, Bool.not_true, Bool.false_eq_true, if_false]
        refine Ev.bind (val_ref_ev _ _ _ _) (Ev.bind (Cut_ref_ev _ _ _) ?_)
        obtain ⟨h1, h2, h3, h4⟩ := chk_ok h
        have e1 : valAns (n : Int) l al s = (netAt s l al, 0) := by
          unfold valAns
          rw [if_pos h, if_pos c1.1, B_true (show okVal l al from okAl_cap c1.2.1 h4), if_pos rfl, if_neg (by omega)]
        have e2 : cutAns (n : Int) l side = (cut side l, 0) := by
          unfold cutAns
          rw [if_pos h, if_pos (by have := c2.1; omega)]
        rw [e1, e2]
        refine Ev.same (fun k => ?_)
        by_cases c3 : netAt s l al = val
        · by_cases c4 : cut side l = val
          · simp only [if_pos c3, if_pos c4, B_true (show isCert n l s t val al side from ⟨c1, c2, c3, c4⟩), if_true]
          · simp only [if_pos c3, if_neg c4, B_false (show ¬ isCert n l s t val al side from fun q => c4 q.2.2.2), Bool.false_eq_true, if_false]
        · simp only [if_neg c3, B_false (show ¬ isCert n l s t val al side from fun q => c3 q.2.2.1), Bool.false_eq_true, if_false]
      · simp only [B_false c2, Bool.not_false, if_true, B_false (show ¬ isCert n l s t val al side from fun q => c2 q.2.1), Bool.false_eq_true, if_false]
        exact Ev.same (fun _ => rfl)
    · simp only [B_false c1, Bool.false_eq_true, if_false, B_false (show ¬ isCert n l s t val al side from fun q => c1 q.1)]
      refine Ev.step (fun _ => codewrightref51_Accept.j0.eq_2 ..) ?_
      exact Ev.same (fun _ => by simp)
  · simp only [if_neg c]; exact Ev.same (fun _ => rfl)

theorem few_ev (v : Int) (l : List S36) : ∃ b, Ev (fun k => codewrightlaw51_few.f k v l) b ∧ (b = true → (v ≤ 40 ∧ l.length ≤ 120) ∨ chk v l ≠ 0) ∧ (b = false → chk v l = 0) := by
  unfold codewrightlaw51_few.f
  by_cases c1 : v ≤ 40
  · by_cases c2 : l.length ≤ 120
    · refine ⟨true, ?_, fun _ => Or.inl ⟨c1, c2⟩, fun h => by cases h⟩
      simp only [if_pos c1, if_pos (show (l.length : Int) ≤ 120 by omega)]; exact Ev.same (fun _ => rfl)
    · refine ⟨chk v l != 0, ?_, fun h => Or.inr (by simpa using h), fun h => by simpa using h⟩
      simp only [if_pos c1, if_neg (show ¬ (l.length : Int) ≤ 120 by omega)]
      exact Ev.bind (check_ref_ev v l) (Ev.same (fun _ => rfl))
  · refine ⟨chk v l != 0, ?_, fun h => Or.inr (by simpa using h), fun h => by simpa using h⟩
    simp only [if_neg c1]
    exact Ev.bind (check_ref_ev v l) (Ev.same (fun _ => rfl))
end Go.Proofs.Ytidomjhihfoabaa.PF
