/- slices.Clone of a list of arcs, and of whole numbers. -/
import Derived.Test.YtidomjhihfoabaaPFx0
import Derived.Test.YtidomjhihfoabaaLive3
import Derived.WalkSpells
namespace Go.Proofs.Ytidomjhihfoabaa.PF
open Go Go.RowKit Go.Lib Go.Proofs.YtidomjhihfoabaaW.PrintWords Go.Proofs.YtidomjhihfoabaaW.PrintLast Go.Proofs.Ytidomjhihfoabaa.Lv
set_option linter.unusedVariables false
set_option linter.unusedSimpArgs false

theorem k36_KM (w : World) (base : Nat) (ok : Nat → Prop) (x : S36) (cs : List Value) (h : k36.K w x cs) : k36.M w base ok x cs := by
  obtain rfl := k36_open h
  exact k36_mkM _ _ _ _

set_option maxHeartbeats 1000000 in
theorem clone36_calls (A : Option Addr) (c : Nat) (l : List S36) (w : World) (hr : Kd.C k36 w A l.length l) (hl : l.length * 24 ≤ 140737488355328) :
    Calls Try.prog 48 #[.slice A l.length c] w fun e w' => ∃ v : Value, e = .returned v ∧ Kd.R k36 36 w' w.heap.size (fun _ => True) v l ∧ Below w.heap.size w w' := by
  have HR := Aside0.mk hr
  clear hr
  have HL := Aside0.mk (Live.nil w)
  cases A with
  | none =>
    have hn : l = [] := by
      rcases Nat.eq_zero_or_pos l.length with h | h
      · exact List.eq_nil_of_length_eq_zero h
      · obtain ⟨ad, e, _⟩ := HR.out.2.2 h
        cases e
    subst hn
    have hnil : ∀ W, (binOp .eql 22 (.slice none 0 c) (.slice none 0 0)).run Try.prog W = .ok (.bool true) W := fun W => Lib.run_eql_slice_nil W _ _ _ _ _ _ _ Try.underlying22
    go_enter Try.func48, Try.ntmps48
    go_wp2
    go_ret
    exact ⟨_, rfl, Kd.R_nil _ _ _ _ _, HL.out.hb⟩
  | some ad =>
    have hnil : ∀ W, (binOp .eql 22 (.slice (some ad) l.length c) (.slice none 0 0)).run Try.prog W = .ok (.bool false) W := fun W => Lib.run_eql_slice_nil W _ _ _ _ _ _ _ Try.underlying22
    go_enter Try.func48, Try.ntmps48
    go_wp2_with (first
      | ((with_reducible refine gate_dst (N := 5) rfl ?_); refine ev_lit0 HL k36 36 5 rfl rfl ?hr ?_; (case hr => first | (go_simp; done) | (go_simp; rfl)); intro v1 w1 HL1; clear HL hnil; have HL := HL1; clear HL1)
      | ((with_reducible refine gate_builtin (b := .append) (xs := #[.tmp 5, .tmp 6]) rfl ?_); at_builtin; refine ev_rows HL (i := 0) rfl l (some ad) c (.tmp 5) (.tmp 6) 22 (.agg #[(.int .i64 0), (.int .i64 0), (.int .i64 0)]) 24 rfl rfl Try.underlying22 info36 rfl (by decide) (by decide) rfl rfl (Kd.C_below HR.out HL.out.hb) (k36_KM _ _ _) (by simpa using hl) ?_; intro v2 w2 HL1; clear HL; have HL := HL1; clear HL1)
      )
    go_ret
    exact ⟨_, rfl, by simpa using HL.out.row (i := 0) rfl, HL.out.hb⟩
set_option maxHeartbeats 1000000 in
theorem clone3_calls (A : Option Addr) (c : Nat) (l : List Int) (w : World) (hr : Kd.C (Kd.int .i64) w A l.length l) (hl : l.length * 8 ≤ 140737488355328) :
    Calls Try.prog 43 #[.slice A l.length c] w fun e w' => ∃ v : Value, e = .returned v ∧ Kd.R (Kd.int .i64) 3 w' w.heap.size (fun _ => True) v l ∧ Below w.heap.size w w' := by
  have HR := Aside0.mk hr
  clear hr
  have HL := Aside0.mk (Live.nil w)
  cases A with
  | none =>
    have hn : l = [] := by
      rcases Nat.eq_zero_or_pos l.length with h | h
      · exact List.eq_nil_of_length_eq_zero h
      · obtain ⟨ad, e, _⟩ := HR.out.2.2 h
        cases e
    subst hn
    have hnil : ∀ W, (binOp .eql 33 (.slice none 0 c) (.slice none 0 0)).run Try.prog W = .ok (.bool true) W := fun W => Lib.run_eql_slice_nil W _ _ _ _ _ _ _ Try.underlying33
    go_enter Try.func43, Try.ntmps43
    go_wp2
    go_ret
    exact ⟨_, rfl, Kd.R_nil _ _ _ _ _, HL.out.hb⟩
  | some ad =>
    have hnil : ∀ W, (binOp .eql 33 (.slice (some ad) l.length c) (.slice none 0 0)).run Try.prog W = .ok (.bool false) W := fun W => Lib.run_eql_slice_nil W _ _ _ _ _ _ _ Try.underlying33
    go_enter Try.func43, Try.ntmps43
    go_wp2_with (first
      | ((with_reducible refine gate_dst (N := 5) rfl ?_); refine ev_lit0 HL (Kd.int .i64) 3 5 rfl rfl ?hr ?_; (case hr => first | (go_simp; done) | (go_simp; rfl)); intro v1 w1 HL1; clear HL hnil; have HL := HL1; clear HL1)
      | ((with_reducible refine gate_builtin (b := .append) (xs := #[.tmp 5, .tmp 6]) rfl ?_); at_builtin; refine ev_rows HL (i := 0) rfl l (some ad) c (.tmp 5) (.tmp 6) 33 (.int .i64 0) 8 rfl rfl Try.underlying33 info3 rfl (by decide) (by decide) rfl rfl (Kd.C_below HR.out HL.out.hb) (fun _ _ h => h) (by simpa using hl) ?_; intro v2 w2 HL1; clear HL; have HL := HL1; clear HL1)
      )
    go_ret
    exact ⟨_, rfl, by simpa using HL.out.row (i := 0) rfl, HL.out.hb⟩
end Go.Proofs.Ytidomjhihfoabaa.PF
