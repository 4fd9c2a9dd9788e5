/- sort.Search with whatever predicate that may need rounds. -/
import Derived.Test.YtidomjhihfoabaaPFx0
import Derived.Shelf.Abstract
namespace Go.Proofs.Ytidomjhihfoabaa.PF
open Go Go.RowKit Go.Lib Go.Proofs.YtidomjhihfoabaaW.PrintWords Go.Proofs.YtidomjhihfoabaaW.PrintLast
set_option linter.unusedVariables false
set_option linter.unusedSimpArgs false

/-- what is asked of a predicate: where p tells an answer it gives that one, and nothing that lay there turns -/
def Pred2 (g : Nat) (lb : Array Value) (p : Int → Option Bool) (w : World) : Prop :=
  ∀ (W : World) (x : Int) (b : Bool), Below w.heap.size w W → p x = some b → Calls Try.prog g (#[.int .i64 x] ++ lb) W fun e w' => e = .returned (.bool b) ∧ Below w.heap.size w w'

def srchLoop (p : Int → Option Bool) : Nat → Int → Int → Option Int
  | 0, _, _ => none
  | k + 1, i, j => if 0 ≤ i ∧ i ≤ 1099511627776 ∧ 0 ≤ j ∧ j ≤ 1099511627776 then (if i < j then (p ((i + j) / 2)).bind fun b => (if b = true then srchLoop p k i ((i + j) / 2) else srchLoop p k ((i + j) / 2 + 1) j) else some i) else none

set_option maxHeartbeats 2000000 in
theorem search_calls (k : Nat) (p : Int → Option Bool) (g : Nat) (lb : Array Value) (eg : ∀ args w, (callFunc g args).run Try.prog w = .ok (.enter g args) w) (n r : Int) (w : World) (hp : Pred2 g lb p w) (h : srchLoop p k 0 n = some r) :
    Calls Try.prog 49 #[.int .i64 n, .func (.func g) #[] lb] w fun e w' => e = .returned (.int .i64 r) ∧ Below w.heap.size w w' := by
  have HP := Aside0.mk hp
  have H := Aside0.mk h
  clear hp h
  go_enter Try.func49, Try.ntmps49
  go_wp2
  go_loopg [5, 6, 7] k (fun gk s5 s6 _ wr => ∃ i j : Int, s5 = .int .i64 i ∧ s6 = .int .i64 j ∧ Aside0 (srchLoop p gk i j = some r) ∧ Aside0 (Below w.heap.size w wr))
  case atStart => exact ⟨0, n, rfl, rfl, H, ⟨Below.refl _ w⟩⟩
  case round =>
    clear H
    obtain ⟨i, j, rfl, rfl, H, HB⟩ := hrel
    cases gk with
    | zero => exact absurd H.out (by simp [srchLoop])
    | succ gk =>
      have h1 := H.out
      clear H
      simp only [srchLoop] at h1
      split at h1
      · rename_i hg
        obtain ⟨h0, h01, h2, h3⟩ := hg
        split at h1
        · rename_i hlt
          obtain ⟨b, hb0, h4⟩ := Option.bind_eq_some_iff.1 h1
          have d1 : decide (i < j) = true := decide_eq_true hlt
          have H4 := Aside0.mk h4
          have HC := Aside0.mk hb0
          clear h1 h4 hb0
          have hcall := HP.out wr ((i + j) / 2) b HB.out HC.out
          cases b with
          | true =>
            go_wp2_with (go_at_fn g; refine hcall.mono ?_; rintro e w' ⟨rfl, hb'⟩)
            go_roundg gk
            case measure => omega
            case rel => exact ⟨_, _, rfl, rfl, H4, ⟨hb'⟩⟩
          | false =>
            go_wp2_with (go_at_fn g; refine hcall.mono ?_; rintro e w' ⟨rfl, hb'⟩)
            go_roundg gk
            case measure => omega
            case rel => exact ⟨_, _, rfl, rfl, H4, ⟨hb'⟩⟩
        · rename_i hge
          obtain rfl := Option.some.inj h1
          have d1 : decide (i < j) = false := decide_eq_false hge
          clear h1
          go_wp2
          go_ret
          exact ⟨rfl, HB.out⟩
      · cases h1
theorem srchLoop_mono (p q : Int → Option Bool) (hpq : ∀ x b, p x = some b → q x = some b) : ∀ k i j r, srchLoop p k i j = some r → srchLoop q (k + 1) i j = some r := by
  intro k
  induction k with
  | zero => intro i j r h; simp [srchLoop] at h
  | succ k ih =>
    intro i j r h
    rw [srchLoop] at h ⊢
    split at h
    · rename_i hg
      rw [if_pos hg]
      split at h
      · rename_i hlt
        rw [if_pos hlt]
        obtain ⟨b, h1, h2⟩ := Option.bind_eq_some_iff.1 h
        rw [hpq _ _ h1, Option.bind_some]
        split at h2
        · rename_i hb; rw [if_pos hb]; exact ih _ _ _ h2
        · rename_i hb; rw [if_neg hb]; exact ih _ _ _ h2
      · rename_i hge
        rw [if_neg hge]; exact h
    · cases h
end Go.Proofs.Ytidomjhihfoabaa.PF
