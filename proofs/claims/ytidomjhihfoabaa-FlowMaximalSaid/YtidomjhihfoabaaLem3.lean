/- The value of every flow is at most the capacity of every cut; what the program's Value answers. -/
import Derived.Test.YtidomjhihfoabaaLem2
namespace Go.Proofs.Ytidomjhihfoabaa.PF
open Go.RowKit Go.Proofs.YtidomjhihfoabaaW.PrintWords Go.Proofs.YtidomjhihfoabaaW.PrintLast
set_option linter.unusedVariables false
set_option linter.unusedSimpArgs false
theorem valAns_ok {n : Nat} {l : List S36} {al : List Int} {s t : Int} (h : chk (n : Int) l = 0) (hf : isFlow n l s t al) {u : Int} (h0 : 0 ≤ u) (h1 : u < n) : valAns (n : Int) l al u = (netAt u l al, 0) := by
  obtain ⟨_, _, _, h4⟩ := chk_ok h
  unfold valAns
  rw [if_pos h, if_pos hf.1, B_true (show okVal l al from okAl_cap hf.2.1 h4), if_pos rfl, if_neg (by omega)]

/-! ### sums over the vertices of a set -/
def sumS (side : Nat → Bool) (g : Nat → Int) : Nat → Int
  | 0 => 0
  | u + 1 => sumS side g u + (if side u = true then g u else 0)
theorem sumS_add (side : Nat → Bool) (g h : Nat → Int) (n : Nat) : sumS side (fun u => g u + h u) n = sumS side g n + sumS side h n := by
  induction n with
  | zero => simp [sumS]
  | succ n ih => simp only [sumS, ih]; split <;> omega
theorem sumS_sub (side : Nat → Bool) (g h : Nat → Int) (n : Nat) : sumS side (fun u => g u - h u) n = sumS side g n - sumS side h n := by
  induction n with
  | zero => simp [sumS]
  | succ n ih => simp only [sumS, ih]; split <;> omega
theorem sumS_zero (side : Nat → Bool) (n : Nat) : sumS side (fun _ => 0) n = 0 := by
  induction n with
  | zero => simp [sumS]
  | succ n ih => simp [sumS, ih]
theorem sumS_congr {side : Nat → Bool} {g h : Nat → Int} {n : Nat} (e : ∀ u, u < n → side u = true → g u = h u) : sumS side g n = sumS side h n := by
  induction n with
  | zero => rfl
  | succ n ih =>
    simp only [sumS, ih (fun u hu => e u (by omega))]
    by_cases c : side n = true
    · rw [if_pos c, if_pos c, e n (by omega) c]
    · rw [if_neg c, if_neg c]
theorem sumS_one (side : Nat → Bool) (a : Nat) (x : Int) (n : Nat) : sumS side (fun u => if (a : Int) = (u : Int) then x else 0) n = if a < n ∧ side a = true then x else 0 := by
  induction n with
  | zero => simp [sumS]
  | succ n ih =>
    simp only [sumS, ih]
    by_cases c : a = n
    · subst c
      by_cases c2 : side a = true <;> simp [c2]
    · have c1 : ¬ (a : Int) = (n : Int) := by omega
      simp only [if_neg c1]
      by_cases c2 : side a = true <;> simp [c2] <;> (try split) <;> (try split) <;> omega
/-- what an arc brings out of a set -/
def xAt (side : Nat → Bool) (a : S36) (x : Int) : Int := (if side a.f0.toNat = true then x else 0) - (if side a.f1.toNat = true then x else 0)
def xTo (side : Nat → Bool) (l : List S36) (al : List Int) : Nat → Int
  | 0 => 0
  | i + 1 => xTo side l al i + xAt side (l.getD i z36) (al.getD i 0)
theorem sumS_flowAt {side : Nat → Bool} {a : S36} {n : Nat} (h : okArc (n : Int) a) (x : Int) : sumS side (fun u => flowAt (u : Int) a x) n = xAt side a x := by
  obtain ⟨f, hf⟩ : ∃ f : Nat, a.f0 = (f : Int) := ⟨a.f0.toNat, by unfold okArc at h; omega⟩
  obtain ⟨g, hg⟩ : ∃ g : Nat, a.f1 = (g : Int) := ⟨a.f1.toNat, by unfold okArc at h; omega⟩
  have h1 : f < n := by unfold okArc at h; omega
  have h2 : g < n := by unfold okArc at h; omega
  unfold flowAt xAt
  rw [sumS_sub, hf, hg, sumS_one, sumS_one]
  simp [h1, h2]
theorem sumS_netTo {side : Nat → Bool} {l : List S36} {al : List Int} {n : Nat} (h : okArcs (n : Int) l) (i : Nat) (hi : i ≤ l.length) : sumS side (fun u => netTo (u : Int) l al i) n = xTo side l al i := by
  induction i with
  | zero => simp [netTo, xTo, sumS_zero]
  | succ i ih =>
    have hx : okArc (n : Int) (l.getD i z36) := h _ (by simp [List.getD, show i < l.length by omega])
    simp only [netTo, xTo]
    rw [sumS_add, ih (by omega), sumS_flowAt hx]
def cutTo (side : List Bool) (l : List S36) : Nat → Int
  | 0 => 0
  | i + 1 => cutTo side l i + cutOf side (l.getD i z36)
theorem cutTo_take (side : List Bool) (l : List S36) (i : Nat) (hi : i ≤ l.length) : cutTo side l i = cut side (l.take i) := by
  induction i with
  | zero => simp [cutTo, cut]
  | succ i ih =>
    have hlt : i < l.length := by omega
    rw [cutTo, ih (by omega), List.take_succ_eq_append_getElem hlt, show l.getD i z36 = l[i] by simp [List.getD, hlt]]
    simp only [cut, List.map_append, List.sum_append, List.map_cons, List.map_nil, List.sum_cons, List.sum_nil, Int.add_zero]
theorem cutTo_all (side : List Bool) (l : List S36) : cutTo side l l.length = cut side l := by rw [cutTo_take _ _ _ (Nat.le_refl _), List.take_length]
def sideFn (side : List Bool) : Nat → Bool := fun u => side.getD u false
theorem xTo_le {side : List Bool} {l : List S36} {al : List Int} {v : Int} (hok : okArcs v l) (h : okAl l al) (i : Nat) (hi : i ≤ l.length) : xTo (sideFn side) l al i ≤ cutTo side l i := by
  induction i with
  | zero => simp [xTo, cutTo]
  | succ i ih =>
    have h1 := ih (by omega)
    have h2 := h i (by omega)
    have hx : okArc v (l.getD i z36) := hok _ (by simp [List.getD, show i < l.length by omega])
    have h3 : 0 ≤ (l.getD i z36).f2 := by unfold okArc at hx; omega
    rw [xTo, cutTo]
    generalize l.getD i z36 = a at hx h2 h3 ⊢
    generalize xTo (sideFn side) l al i = X at h1 ⊢
    unfold xAt cutOf sideFn
    by_cases c1 : side.getD a.f0.toNat false = true <;> by_cases c2 : side.getD a.f1.toNat false = true
    · simp only [if_pos c1, if_pos c2]; rw [if_neg (fun h => by rw [c2] at h; exact absurd h.2 (by decide))]; omega
    · simp only [if_pos c1, if_neg c2]; rw [if_pos ⟨c1, by simpa using c2⟩]; omega
    · simp only [if_neg c1, if_pos c2]; rw [if_neg (fun h => c1 h.1)]; omega
    · simp only [if_neg c1, if_neg c2]; rw [if_neg (fun h => c1 h.1)]; omega
theorem sumS_st {side : Nat → Bool} {g : Nat → Int} {S T : Nat} (hS : side S = true) (hST : S ≠ T) (n : Nat) (h : ∀ u, u < n → u ≠ S → u ≠ T → g u = 0) : sumS side g n = (if S < n then g S else 0) + (if T < n ∧ side T = true then g T else 0) := by
  induction n with
  | zero => simp [sumS]
  | succ n ih =>
    simp only [sumS, ih (fun u hu => h u (by omega))]
    by_cases c1 : n = S
    · subst c1
      rw [if_pos hS, if_neg (show ¬ n < n by omega), if_pos (show n < n + 1 by omega)]
      by_cases c : T < n ∧ side T = true
      · rw [if_pos c, if_pos ⟨by omega, c.2⟩]; omega
      · rw [if_neg c, if_neg (fun q => c ⟨by omega, q.2⟩)]; omega
    · by_cases c2 : n = T
      · subst c2
        rw [if_neg (show ¬ (n < n ∧ side n = true) by omega)]
        have e : (if S < n + 1 then g S else 0) = (if S < n then g S else 0) := by
          by_cases q : S < n
          · rw [if_pos q, if_pos (by omega)]
          · rw [if_neg q, if_neg (by omega)]
        rw [e]
        by_cases c : side n = true
        · rw [if_pos c, if_pos (show n < n + 1 ∧ side n = true from ⟨by omega, c⟩)]; omega
        · rw [if_neg c, if_neg (show ¬ (n < n + 1 ∧ side n = true) from fun q => c q.2), Int.add_zero]
      · have e0 := h n (by omega) c1 c2
        have e1 : (if S < n + 1 then g S else 0) = (if S < n then g S else 0) := by
          by_cases q : S < n
          · rw [if_pos q, if_pos (by omega)]
          · rw [if_neg q, if_neg (by omega)]
        have e2 : (if T < n + 1 ∧ side T = true then g T else 0) = (if T < n ∧ side T = true then g T else 0) := by
          by_cases q : T < n ∧ side T = true
          · rw [if_pos q, if_pos ⟨by omega, q.2⟩]
          · rw [if_neg q, if_neg (fun r => q ⟨by omega, r.2⟩)]
        rw [e1, e2, e0]
        split <;> omega

/-- the value of a flow is what it brings out of any set with s and without t -/
theorem flow_across {n : Nat} {l : List S36} {S T : Nat} {al : List Int} (hok : okArcs (n : Int) l) (hf : isFlow n l (S : Int) (T : Int) al) (hS : S < n) (hT : T < n) (hST : S ≠ T) {side : Nat → Bool} (h1 : side S = true) :
    netAt (S : Int) l al + (if side T = true then netAt (T : Int) l al else 0) = xTo side l al l.length := by
  rw [← sumS_netTo hok l.length (Nat.le_refl _)]
  rw [sumS_st (g := fun u => netTo (u : Int) l al l.length) h1 hST n (fun u hu h2 h3 => hf.2.2 u hu (by omega) (by omega))]
  rw [if_pos hS]
  unfold netAt
  by_cases c : side T = true
  · rw [if_pos c, if_pos ⟨hT, c⟩]
  · rw [if_neg c, if_neg (fun q => c q.2)]
/-- weak duality -/
theorem duality {n : Nat} {l : List S36} {s t : Int} {al : List Int} {side : List Bool} (he : endsOf (n : Int) l s t = 0) (hf : isFlow n l s t al) (hc : isCut n s t side) : netAt s l al ≤ cut side l := by
  obtain ⟨h, hs0, hs1, ht0, ht1, hst⟩ := endsOf_ok he
  obtain ⟨_, _, _, h4⟩ := chk_ok h
  obtain ⟨S, rfl⟩ : ∃ S : Nat, s = (S : Int) := ⟨s.toNat, by omega⟩
  obtain ⟨T, rfl⟩ : ∃ T : Nat, t = (T : Int) := ⟨t.toNat, by omega⟩
  have e1 := flow_across (side := sideFn side) h4 hf (by omega) (by omega) (by omega) hc.2.1
  have e2 : sideFn side T = false := hc.2.2
  rw [e2, if_neg (by decide)] at e1
  have e3 := xTo_le (side := side) h4 hf.2.1 l.length (Nat.le_refl _)
  rw [cutTo_all] at e3
  omega
theorem xTo_whole (l : List S36) (al : List Int) (i : Nat) : xTo (fun _ => true) l al i = 0 := by
  induction i with
  | zero => rfl
  | succ i ih => simp [xTo, xAt, ih]
/-- what flows out of s flows into t -/
theorem flow_ends_eq {n : Nat} {l : List S36} {s t : Int} {al : List Int} (he : endsOf (n : Int) l s t = 0) (hf : isFlow n l s t al) : netAt s l al = - netAt t l al := by
  obtain ⟨h, hs0, hs1, ht0, ht1, hst⟩ := endsOf_ok he
  obtain ⟨_, _, _, h4⟩ := chk_ok h
  obtain ⟨S, rfl⟩ : ∃ S : Nat, s = (S : Int) := ⟨s.toNat, by omega⟩
  obtain ⟨T, rfl⟩ : ∃ T : Nat, t = (T : Int) := ⟨t.toNat, by omega⟩
  have e1 := flow_across (side := fun _ => true) h4 hf (by omega) (by omega) (by omega) rfl
  rw [if_pos rfl, xTo_whole] at e1
  omega
theorem netAt_bound {n : Nat} {l : List S36} {s t : Int} {al : List Int} (h : chk (n : Int) l = 0) (hf : isFlow n l s t al) (u : Int) : -1125899906842624 ≤ netAt u l al ∧ netAt u l al ≤ 1125899906842624 := by
  obtain ⟨_, _, h3, h4⟩ := chk_ok h
  have := netTo_bound u l al l.length (okAl_cap hf.2.1 h4)
  unfold netAt
  omega
end Go.Proofs.Ytidomjhihfoabaa.PF
