/- The closures of flow.Routes: the first arc of a vertex on which flow is left; is a number above 0? -/
import Derived.Test.YtidomjhihfoabaaPFx0
import Derived.Test.YtidomjhihfoabaaLive4
import Derived.Test.YtidomjhihfoabaaHIdx
namespace Go.Proofs.Ytidomjhihfoabaa.PF
open Go Go.RowKit Go.Lib Go.Proofs.YtidomjhihfoabaaW.PrintWords Go.Proofs.YtidomjhihfoabaaW.PrintLast Go.Proofs.Ytidomjhihfoabaa.Lv
set_option linter.unusedVariables false
set_option linter.unusedSimpArgs false

def rtNext (left : List Int) : List Int → Option Int
  | [] => some (-1)
  | i :: is => if 0 ≤ i ∧ i < (left.length : Int) then (if rd left i > 0 then some i else rtNext left is) else none

set_option maxHeartbeats 2000000 in
theorem next_calls (AR : Option Addr) (cR : Nat) (rows : List (List Int)) (AL : Option Addr) (cL : Nat) (left : List Int) (g13 g11 : Nat) (v r : Int) (w : World)
    (h13 : w.heap[g13]? = some (.cells #[.slice AR rows.length cR] 76 (0, 0))) (h11 : w.heap[g11]? = some (.cells #[.slice AL left.length cL] 33 (0, 0)))
    (hR : Kd.C (Kd.slice 3 (Kd.int .i64)) w AR rows.length rows) (hL : Kd.C (Kd.int .i64) w AL left.length left) (hv0 : 0 ≤ v) (hv1 : v < (rows.length : Int)) (h : rtNext left (rows.getD v.toNat []) = some r) :
    Calls Try.prog 44 #[.int .i64 v, .pointer (some ⟨g13, 0, none⟩), .pointer (some ⟨g11, 0, none⟩)] w fun e w' => e = .returned (.int .i64 r) ∧ Below w.heap.size w w' := by
  have o13 := blk_cell h13 0
  have o11 := blk_cell h11 0
  have O := Aside0.mk o11
  have HL := Aside0.mk hL
  clear hL h13 h11
  obtain ⟨v, rfl⟩ : ∃ m : Nat, v = (m : Int) := ⟨v.toNat, by omega⟩
  obtain ⟨ad, A0, c0, e, x0, hl0, HY⟩ := at_rows hR (v : Int) hv0 hv1
  subst e
  rw [show ((v : Int)).toNat = v from rfl] at x0 hl0 HY h
  generalize rows.getD v [] = ys at x0 hl0 HY h
  have HY' := Aside0.mk HY
  have H := Aside0.mk h
  clear HY h hl0 hR
  go_enter Try.func44, Try.ntmps44
  go_wp2
  clear o13 x0
  go_loopg [6, 12] ys.length (fun gk _ v12 wr => ∃ j : Nat, v12 = .int .i64 (j : Int) ∧ Aside0 (ys.length = j + gk) ∧ Aside0 (rtNext left (ys.drop j) = some r) ∧ Aside0 (Below w.heap.size w wr))
  case atStart => exact ⟨0, rfl, ⟨by omega⟩, H, ⟨Below.refl _ w⟩⟩
  case round =>
    clear H o11
    obtain ⟨j, rfl, HK, H, HB⟩ := hrel
    have o11 := (HB.out.cell (World.block_lt_of_cell? w _ O.out)).trans O.out
    cases gk with
    | zero =>
      have hj : decide (j < ys.length) = false := decide_eq_false (by have := HK.out; omega)
      have h1 := H.out
      rw [List.drop_of_length_le (by have := HK.out; omega), rtNext] at h1
      obtain rfl := Option.some.inj h1
      clear h1 H
      go_wp2
      go_ret
      exact ⟨rfl, HB.out⟩
    | succ g2 =>
      have hj : decide (j < ys.length) = true := decide_eq_true (by have := HK.out; omega)
      have hjz : (j : Int) < (ys.length : Int) := by have := HK.out; omega
      have hjb : j + 1 < 9223372036854775808 := by have := HK.out; have := HY'.out.2.1; omega
      obtain ⟨ad1, e1, xa⟩ := Kd.at_int HY'.out (j : Int) (by omega) hjz
      subst e1
      rw [show ((j : Int)).toNat = j from rfl] at xa
      replace xa := (HB.out.cell (World.block_lt_of_cell? w _ xa)).trans xa
      have HD := Aside0.mk (show ys.drop j = rd ys (j : Int) :: ys.drop (j + 1) by
        have hk : j < ys.length := by have := HK.out; omega
        rw [List.drop_eq_getElem_cons hk]; simp [rd, List.getD, hk])
      generalize rd ys (j : Int) = x at xa HD
      have h1 := H.out
      rw [HD.out, rtNext] at h1
      clear H HD
      split at h1
      · rename_i hx
        obtain ⟨y0, y1⟩ := hx
        obtain ⟨f, rfl⟩ : ∃ f : Nat, x = (f : Int) := ⟨x.toNat, by omega⟩
        obtain ⟨ad2, e2, xb⟩ := Kd.at_int HL.out (f : Int) (by omega) y1
        subst e2
        rw [show ((f : Int)).toNat = f from rfl] at xb
        replace xb := (HB.out.cell (World.block_lt_of_cell? w _ xb)).trans xb
        generalize rd left (f : Int) = z at xb h1
        by_cases c : z > 0
        · rw [if_pos c] at h1
          obtain rfl := Option.some.inj h1
          have d1 : decide (0 < z) = true := decide_eq_true c
          clear h1 c
          go_wp2
          go_ret
          exact ⟨rfl, HB.out⟩
        · rw [if_neg c] at h1
          have d1 : decide (0 < z) = false := decide_eq_false c
          have H := Aside0.mk h1
          clear h1 c
          go_wp2
          go_roundg g2
          case measure => omega
          case rel => exact ⟨j + 1, by go_num, ⟨by have := HK.out; omega⟩, H, HB⟩
      · cases h1

/-- the predicate of Routes: above 0 -/
def above (x : Int) : Bool := decide (x > 0)
theorem pred46 (w : World) : Pred1 46 #[] above w := by
  intro W x hb
  show Calls Try.prog 46 #[.int .i64 x] W _
  have HB := Aside0.mk hb
  clear hb
  unfold above
  go_enter Try.func46, Try.ntmps46
  go_wp2
  go_ret
  exact ⟨rfl, HB.out⟩
end Go.Proofs.Ytidomjhihfoabaa.PF
