/- slices.IndexFunc and slices.ContainsFunc at whole numbers and whatever predicate; the predicate of flow.Value. -/
import Derived.Test.YtidomjhihfoabaaPFx0
import Derived.Shelf.Abstract
namespace Go.Proofs.Ytidomjhihfoabaa.PF
open Go Go.RowKit Go.Lib Go.Proofs.YtidomjhihfoabaaW.PrintWords Go.Proofs.YtidomjhihfoabaaW.PrintLast
set_option linter.unusedVariables false
set_option linter.unusedSimpArgs false

/-- what is asked of a predicate: it answers p, and nothing that lay there turns -/
def Pred1 (g : Nat) (lb : Array Value) (p : Int → Bool) (w : World) : Prop :=
  ∀ (W : World) (x : Int), Below w.heap.size w W → Calls Try.prog g (#[.int .i64 x] ++ lb) W fun e w' => e = .returned (.bool (p x)) ∧ Below w.heap.size w w'

/-- the first index of which p holds, from i on -/
def idxFrom (p : Int → Bool) : List Int → Int → Int
  | [], _ => -1
  | x :: l, i => if p x = true then i else idxFrom p l (i + 1)
def idxOf (p : Int → Bool) (l : List Int) : Int := idxFrom p l 0

set_option maxHeartbeats 2000000 in
theorem indexFunc_calls (p : Int → Bool) (g : Nat) (lb : Array Value) (eg : ∀ args w, (callFunc g args).run Try.prog w = .ok (.enter g args) w) (A : Option Addr) (c : Nat) (l : List Int) (w : World)
    (hr : Kd.C (Kd.int .i64) w A l.length l) (hp : Pred1 g lb p w) :
    Calls Try.prog 45 #[.slice A l.length c, .func (.func g) #[] lb] w fun e w' => e = .returned (.int .i64 (idxOf p l)) ∧ Below w.heap.size w w' := by
  have HR := Aside0.mk hr
  have HL := Aside0.mk hr.2.1
  have HP := Aside0.mk hp
  clear hr hp
  go_enter Try.func45, Try.ntmps45
  go_wp2
  go_loopg [5, 8] l.length (fun gg _ s8 wr => ∃ kk : Nat, s8 = .int .i64 kk ∧ Aside0 (l.length = kk + gg) ∧ Aside0 (Below w.heap.size w wr) ∧ Aside0 (idxOf p l = idxFrom p (l.drop kk) (kk : Int)))
  case atStart => exact ⟨0, rfl, ⟨by omega⟩, ⟨Below.refl _ w⟩, ⟨rfl⟩⟩
  case round =>
    obtain ⟨kk, rfl, HK, HB, HI⟩ := hrel
    cases gk with
    | zero =>
      have hn : ¬ ((kk : Int) < (l.length : Int)) := by have := HK.out; omega
      have hn' : decide (kk < l.length) = false := decide_eq_false (by omega)
      have HE := Aside0.mk (show idxOf p l = -1 by rw [HI.out, List.drop_of_length_le (by have := HK.out; omega)]; rfl)
      clear HI
      go_wp2
      go_ret
      exact ⟨by rw [HE.out]; rfl, HB.out⟩
    | succ gk =>
      have hlt : (kk : Int) < (l.length : Int) := by have := HK.out; omega
      have hsz : kk + 1 < 9223372036854775808 := by have := HL.out; have := HK.out; omega
      obtain ⟨ad, e1, hx⟩ := Kd.at_int HR.out (kk : Int) (by omega) hlt
      subst e1
      replace hx := (HB.out.cell (World.block_lt_of_cell? w _ hx)).trans hx
      rw [show ((kk : Int)).toNat = kk from rfl] at hx
      have hcall := HP.out wr (rd l (kk : Int)) HB.out
      have HD := Aside0.mk (show l.drop kk = rd l (kk : Int) :: l.drop (kk + 1) by
        have hk : kk < l.length := by have := HK.out; omega
        rw [List.drop_eq_getElem_cons hk]; simp [rd, List.getD, hk])
      generalize rd l (kk : Int) = x at hx hcall HD
      cases hq : p x with
      | true =>
        rw [hq] at hcall
        have HE := Aside0.mk (show idxOf p l = kk by rw [HI.out, HD.out]; simp [idxFrom, hq])
        clear HI HD hq
        go_wp2_with (go_at_fn g; refine hcall.mono ?_; rintro e w' ⟨rfl, hb'⟩)
        go_ret
        exact ⟨by rw [HE.out]; rfl, hb'⟩
      | false =>
        rw [hq] at hcall
        have HE := Aside0.mk (show idxOf p l = idxFrom p (l.drop (kk + 1)) ((kk + 1 : Nat) : Int) by rw [HI.out, HD.out]; simp [idxFrom, hq])
        clear HI HD hq
        go_wp2_with (go_at_fn g; refine hcall.mono ?_; rintro e w' ⟨rfl, hb'⟩)
        go_roundg gk
        case measure => omega
        case rel => exact ⟨kk + 1, by go_num, ⟨by have := HK.out; omega⟩, ⟨hb'⟩, HE⟩

theorem idxFrom_neg (p : Int → Bool) : ∀ (l : List Int) (i : Int), 0 ≤ i → (idxFrom p l i = -1 ∨ 0 ≤ idxFrom p l i) ∧ (0 ≤ idxFrom p l i ↔ l.any p = true)
  | [], i, h => by simp [idxFrom]
  | x :: l, i, h => by
    have ih := idxFrom_neg p l (i + 1) (by omega)
    unfold idxFrom
    by_cases hx : p x = true
    · simp [hx, h]
    · rw [if_neg hx, List.any_cons, show p x = false by simpa using hx, Bool.false_or]
      exact ih

set_option maxHeartbeats 2000000 in
theorem containsFunc_calls (p : Int → Bool) (g : Nat) (lb : Array Value) (eg : ∀ args w, (callFunc g args).run Try.prog w = .ok (.enter g args) w) (A : Option Addr) (c : Nat) (l : List Int) (w : World)
    (hr : Kd.C (Kd.int .i64) w A l.length l) (hp : Pred1 g lb p w) :
    Calls Try.prog 35 #[.slice A l.length c, .func (.func g) #[] lb] w fun e w' => e = .returned (.bool (l.any p)) ∧ Below w.heap.size w w' := by
  have HC := indexFunc_calls p g lb eg A c l w hr hp
  have HQ := (idxFrom_neg p l 0 (Int.le_refl 0)).2
  generalize hi : idxOf p l = n at HC
  have HQ' : l.any p = decide (0 ≤ n) := by
    rw [Bool.eq_iff_iff, decide_eq_true_eq, ← hi]; exact HQ.symm
  rw [HQ']
  clear HQ HQ' hi hr hp eg
  go_enter Try.func35, Try.ntmps35
  go_wp2_with (go_at_call 45; refine HC.mono ?_; rintro e w' ⟨rfl, hb'⟩)
  go_ret
  exact ⟨rfl, hb'⟩

/-- the predicate of Value: out of range -/
def outside (x : Int) : Bool := decide (x < 0) || decide (x > 1099511627776)
theorem pred36 (w : World) : Pred1 36 #[] outside w := by
  intro W x hb
  show Calls Try.prog 36 #[.int .i64 x] W _
  have HB := Aside0.mk hb
  clear hb
  unfold outside
  by_cases c1 : x < 0
  · have d1 : decide (x < 0) = true := decide_eq_true c1
    go_enter Try.func36, Try.ntmps36
    go_wp2
    go_ret
    exact ⟨by simp [c1], HB.out⟩
  · have d1 : decide (x < 0) = false := decide_eq_false c1
    go_enter Try.func36, Try.ntmps36
    go_wp2
    go_ret
    exact ⟨by simp [c1], HB.out⟩

def slices_ContainsFunc_int_int.f (l : List Int) : Option Bool := some (l.any outside)
theorem slices_ContainsFunc_int_int.calls (A0 : Option Addr) (c0 : Nat) (l0 : List Int) (r : Bool) (w : World) (hr0 : Kd.C (Kd.int .i64) w A0 l0.length l0) (hc0 : l0.length ≤ c0) (h : slices_ContainsFunc_int_int.f l0 = some r) :
    Calls Try.prog 35 #[.slice A0 l0.length c0, .func (.func 36) #[] #[]] w fun e w' => e = .returned (.bool r) ∧ Below w.heap.size w w' := by
  obtain rfl := Option.some.inj h
  exact containsFunc_calls outside 36 #[] (enters_of Try.func36 (by kernel_rfl) rfl) A0 c0 l0 w hr0 (pred36 w)
end Go.Proofs.Ytidomjhihfoabaa.PF
