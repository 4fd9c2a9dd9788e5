/- More of Live, for regions that draw their order: []T{} and append(v, ys...). -/
import Derived.Test.YtidomjhihfoabaaLive3
namespace Go.Proofs.Ytidomjhihfoabaa.Lv
open Go Go.RowKit Go.Lib Go.Proofs.YtidomjhihfoabaaW.PrintWords Go.Proofs.YtidomjhihfoabaaW.PrintLast
set_option linter.unusedVariables false
set_option linter.unusedSimpArgs false
section
variable {P : Program} {ops : Array Oper} {o : Oper} {a : Act} {Q : Exit → Act → World → Prop} {Kc : Act → World → Prop} {α : Type} {d : Kd α} {e i : Nat} {w W : World} {rs : List Res}
theorem lit0_step (HL : Live w W rs) (hi : rs[i]? = some Emp) (d : Kd α) (e : Nat) (N : Tmp) (hw : Region.wanted o (yielded ops a.tmps) = true) (hd : o.dst = some N)
    (hrun : (execOp a.eval o).run P W = .ok (.value (.slice (some ⟨W.heap.size, 0, none⟩) 0 0)) (W.alloc (.cells #[] e)))
    (h : ∀ v1 w1, Live w w1 (rs.set i (Row w.heap.size d e v1 [])) → Kc (a.put o.dst v1) w1) :
    if Region.wanted o (yielded ops a.tmps) = true then Oper.wp P o a W Kc Q else Kc (a.put o.dst undef) W := by
  refine Kd.R_lit_step d (w0 := W) W.heap.size e hw hd (xs := []) (inner := []) (ok := fun _ => True) (okp := fun _ => False) hrun (Reps.none _ _) (fun _ _ => trivial) trivial (Below.refl _ _) (Nat.le_refl _) (by simp) ?_
  intro v1 w1 hr hb _ _
  exact h v1 w1 (HL.fill_row hi hr hb)
theorem rows_step (HL : Live w W rs) {v : Value} {xs : List α} (hi : rs[i]? = some (Row w.heap.size d e v xs)) (ys : List α) (A : Option Addr) (c : Nat) (s x : Operand) (t : TypeId) (z : Value) (bytes : Nat) (hw : Region.wanted o (yielded ops a.tmps) = true)
    (ho : o.op = .call { callee := .builtin .append, args := #[s, x], argTypes := #[t, t] })
    (ht : P.underlying t = some (.slice e)) (hinfo : (P.info? e).map (fun i => (i.zero, i.size, i.bytes)) = some (some z, d.sz, bytes)) (hz : z.cells.size = d.sz) (hs0 : 0 < d.sz) (hb0 : 0 < bytes)
    (hs : a.eval s = v) (hx : a.eval x = .slice A ys.length c) (HR : d.C W A ys.length ys) (hKM : ∀ x cs, d.K W x cs → d.M W w.heap.size (fun _ => False) x cs) (hl : (xs.length + ys.length) * bytes ≤ 140737488355328)
    (h : ∀ v1 w1, Live w w1 (rs.set i (Row w.heap.size d e v1 (xs ++ ys))) → Kc (a.put o.dst v1) w1) :
    if Region.wanted o (yielded ops a.tmps) = true then Oper.wp P o a W Kc Q else Kc (a.put o.dst undef) W := by
  obtain ⟨ok, hr, hn, h2⟩ := HL.upd hi
  refine Kd.R_append_rows_step d (Rr := d.K W) (w0 := w) w.heap.size hw s x t e z bytes ho ht hinfo hz hs0 hb0 v xs ys A ys.length c ok (fun _ => False) hs hx hr HR hKM (fun _ hk => hk.elim) hn HL.hb HL.size hl ?_
  intro v1 w1 hr1 hb1 hg hat
  exact h v1 w1 (h2 w1 _ hr1 (fun k hk hno => hg.block k hk (fun e => hno (hr.1 k e.symm))) hb1)
end
end Go.Proofs.Ytidomjhihfoabaa.Lv
