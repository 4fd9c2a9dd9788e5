/- More of Live: []T{} and append(v, ys...), a row that came in. -/
import Derived.Test.YtidomjhihfoabaaLive2
namespace Go.Proofs.Ytidomjhihfoabaa.Lv
open Go Go.RowKit Go.Lib Go.Proofs.YtidomjhihfoabaaW.PrintWords Go.Proofs.YtidomjhihfoabaaW.PrintLast
set_option linter.unusedVariables false
set_option linter.unusedSimpArgs false
section
variable {P : Program} {ops : Array Oper} {rest : List Oper} {o : Oper} {a : Act} {Q : Exit → Act → World → Prop} {α : Type} {d : Kd α} {e i : Nat} {w W : World} {rs : List Res}
/-- []T{}. -/
theorem ev_lit0 (HL : Aside0 (Live w W rs)) (d : Kd α) (e : Nat) (N : Tmp) (hgd : o.guard = none) (hd : o.dst = some N)
    (hrun : (execOp a.eval o).run P W = .ok (.value (.slice (some ⟨W.heap.size, 0, none⟩) 0 0)) (W.alloc (.cells #[] e)))
    (h : ∀ v1 w1, Aside0 (Live w w1 (rs ++ [Row w.heap.size d e v1 []])) → wpList P ops Q rest (a.put o.dst v1) w1) : wpList P ops Q (o :: rest) a W := by
  refine Kd.R_lit d (w0 := W) W.heap.size e hgd hd (xs := []) (inner := []) (ok := fun _ => True) (okp := fun _ => False) hrun (Reps.none _ _) (fun _ _ => trivial) trivial (Below.refl _ _) (Nat.le_refl _) (by simp) ?_
  intro v1 w1 hr hb _ _
  exact h v1 w1 ⟨HL.out.add_row hr hb⟩
/-- append(v, ys...): ys came in (its elements lead to nothing). -/
theorem ev_rows (HL : Aside0 (Live w W rs)) {v : Value} {xs : List α} (hi : rs[i]? = some (Row w.heap.size d e v xs)) (ys : List α) (A : Option Addr) (c : Nat) (s x : Operand) (t : TypeId) (z : Value) (bytes : Nat) (hgd : o.guard = none)
    (ho : o.op = .call { callee := .builtin .append, args := #[s, x], argTypes := #[t, t] })
    (ht : P.underlying t = some (.slice e)) (hinfo : (P.info? e).map (fun i => (i.zero, i.size, i.bytes)) = some (some z, d.sz, bytes)) (hz : z.cells.size = d.sz) (hs0 : 0 < d.sz) (hb0 : 0 < bytes)
    (hs : a.eval s = v) (hx : a.eval x = .slice A ys.length c) (HR : d.C W A ys.length ys) (hKM : ∀ x cs, d.K W x cs → d.M W w.heap.size (fun _ => False) x cs) (hl : (xs.length + ys.length) * bytes ≤ 140737488355328)
    (h : ∀ v1 w1, Aside0 (Live w w1 (rs.set i (Row w.heap.size d e v1 (xs ++ ys)))) → wpList P ops Q rest (a.put o.dst v1) w1) : wpList P ops Q (o :: rest) a W := by
  obtain ⟨ok, hr, hn, h2⟩ := HL.out.upd hi
  refine Kd.R_append_rows d (Rr := d.K W) (w0 := w) w.heap.size hgd s x t e z bytes ho ht hinfo hz hs0 hb0 v xs ys A ys.length c ok (fun _ => False) hs hx hr HR hKM (fun _ hk => hk.elim) hn HL.out.hb HL.out.size hl ?_
  intro v1 w1 hr1 hb1 hg hat
  exact h v1 w1 ⟨h2 w1 _ hr1 (fun k hk hno => hg.block k hk (fun e => hno (hr.1 k e.symm))) hb1⟩
end
/-- One cell of one element (of several cells) is written. -/
theorem Live.seg1 {α : Type} {d : Kd α} {e i g n cap : Nat} {w W : World} {rs : List Res} {xs : List α} (h : Live w W rs) (hi : rs[i]? = some (Row w.heap.size d e (.slice (some ⟨g, 0, none⟩) n cap) xs)) (j : Int) (h0 : 0 ≤ j) (h1 : j < n) (m : Nat) (hm : m + 1 ≤ d.sz) (u : Value) (x : α)
    (hM : ∀ c : List Value, c.length = d.sz → d.K W (xs.getD j.toNat x) c → d.M W w.heap.size (fun _ => False) x (c.take m ++ [u] ++ c.drop (m + 1))) :
    Live w (W.setCell ⟨g, j.toNat * d.sz + m, none⟩ u) (rs.set i (Row w.heap.size d e (.slice (some ⟨g, 0, none⟩) n cap) (xs.set j.toNat x))) := by
  obtain ⟨ok, hr, _, h2⟩ := h.upd hi
  have hr' : d.R e W w.heap.size ok (.slice (some ⟨g, 0, none⟩) n cap) xs := hr
  have hn := Kd.R_reads' hr'
  have hj : j.toNat < xs.length := by omega
  have hg : ok g := hr'.1 g (by simp [Value.ownBlock])
  have hgb : w.heap.size ≤ g := Kd.R_base hr' g (by simp [Value.ownBlock])
  obtain ⟨ad, c, ea, hcl, hK, hcc⟩ := Kd.C_get hn.2.2 x j h0 (by omega)
  have hcc' : ∀ m u, c[m]? = some u → W.cell? ⟨g, j.toNat * d.sz + m, none⟩ = some u := by
    intro m u hu
    have := hcc m u hu
    have e2 : ad = ⟨g, 0, none⟩ := (Option.some.inj ea).symm
    rw [e2, add_plain] at this
    exact this
  have hcl' : c.length = d.sz := hcl
  obtain ⟨hrow, hgr⟩ := Kd.R_seg hr' j h0 h1 (c := c) (seg := [u]) (j := m) hcl' hcc' (by simpa using hm) (x' := x) (okp := fun _ => False) (by simpa using hM c hcl' hK) (fun _ hk => hk.elim)
  exact h2 _ _ hrow (fun k hk hn => Below.heap_setCell W ⟨g, j.toNat * d.sz + m, none⟩ u k (fun e => hn (by rw [e]; exact hg))) (below_set h.hb hgb)
end Go.Proofs.Ytidomjhihfoabaa.Lv
