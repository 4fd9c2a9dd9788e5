/- More of Live: an inner row of a row of rows grows (X[i] = append(X[i], x)), in a region that draws its order; two rows made by one call. -/
import Derived.Test.YtidomjhihfoabaaLive
namespace Go.Proofs.Ytidomjhihfoabaa.Lv
open Go Go.RowKit Go.Lib Go.Proofs.YtidomjhihfoabaaW.PrintWords Go.Proofs.YtidomjhihfoabaaW.PrintLast
set_option linter.unusedVariables false
set_option linter.unusedSimpArgs false
variable {w W W1 : World} {rs : List Res}
section
variable {α : Type} {d : Kd α} {e e2 i g n cap : Nat} {xss : List (List α)}
theorem Live.app (h : Live w W rs) (hi : rs[i]? = some (RowS w.heap.size (Kd.slice e2 d) e (.slice (some ⟨g, 0, none⟩) n cap) xss)) (j : Int) (h0 : 0 ≤ j) (h1 : j < n) :
    ∃ (ok2 : Nat → Prop) (v : Value), W.cell? ⟨g, j.toNat, none⟩ = some v ∧ W.frozen? ⟨g, j.toNat, none⟩ = false ∧ d.R e2 W w.heap.size ok2 v (xss.getD j.toNat []) ∧ (∀ k, W.heap.size ≤ k → ok2 k) ∧
      ∀ (v1 : Value) (w1 : World) (ys : List α), d.R e2 w1 w.heap.size ok2 v1 ys → Below w.heap.size w w1 → W.grownBy w1 v.ownBlock →
        w1.cell? ⟨g, j.toNat, none⟩ = some v ∧ w1.frozen? ⟨g, j.toNat, none⟩ = false ∧ Live w w1 (rs.set i Emp) ∧
        Live w (w1.setCell ⟨g, j.toNat, none⟩ v1) (rs.set i (RowS w.heap.size (Kd.slice e2 d) e (.slice (some ⟨g, 0, none⟩) n cap) (xss.set j.toNat ys))) := by
  obtain ⟨ok, hS, hnew, hup⟩ := h.upd hi
  have hS' : Kd.S (Kd.slice e2 d) e W w.heap.size ok (.slice (some ⟨g, 0, none⟩) n cap) xss := hS
  obtain ⟨oki, c, hcl, hM, hcc, hfr, hok, hH⟩ := Kd.S_elem hS' [] j h0 h1
  obtain ⟨v, rfl, hR⟩ := hM
  have hg : ok g := (Kd.S_R hS').1 g (by simp [Value.ownBlock])
  have hgb : w.heap.size ≤ g := Kd.S_base hS' g (by simp [Value.ownBlock])
  have hsz : (Kd.slice e2 d).sz = 1 := rfl
  have hc0 := hcc 0 v rfl
  have hf0 := hfr 0
  rw [hsz, Nat.mul_one, Nat.add_zero] at hc0 hf0
  have hHw := Kd.H_widen hH
  refine ⟨fun k => oki k ∨ ok k ∧ W.heap.size ≤ k, v, hc0, hf0, Kd.R_mono hR (fun k hk => .inl hk), fun k hk => .inr ⟨hnew k hk, hk⟩, fun v1 w1 ys h1' hb hgr => ?_⟩
  have hH1 := Kd.H_grown hHw hgr (fun k hk => .inl (hR.1 k hk))
  obtain ⟨hat1, hat2⟩ := Kd.H_at hH1 h0 h1
  have ha1 := hat1 0 v rfl
  have ha2 := hat2 0
  rw [hsz, Nat.mul_one, Nat.add_zero] at ha1 ha2
  have hbl : ∀ k, k < W.heap.size → ¬ ok k → w1.heap[k]? = W.heap[k]? := fun k hk hn => hgr.block k hk (fun e => hn (hok k (hR.1 k e.symm)).1)
  refine ⟨ha1, ha2, hup w1 Emp trivial hbl hb, ?_⟩
  obtain ⟨hseg, _⟩ := Kd.S_seg0 hH1 h0 h1 (seg := [v1]) (j := 0) (show 0 + 1 ≤ 1 by decide) (x' := ys) (okp := fun k => oki k ∨ ok k ∧ W.heap.size ≤ k) (Kd.M_row h1') (fun _ hk => hk)
  rw [hsz, Nat.mul_one, Nat.add_zero] at hseg
  refine hup _ _ hseg (fun k hk hn => ?_) (below_set hb hgb)
  rw [Below.heap_setCell w1 ⟨g, j.toNat, none⟩ v1 k (fun e => hn (by rw [e]; exact hg))]
  exact hbl k hk hn
end
section
variable {P : Program} {ops : Array Oper} {o : Oper} {a : Act} {Q : Exit → Act → World → Prop} {Kc : Act → World → Prop} {α : Type} {d : Kd α} {e e2 i g n cap : Nat} {xss : List (List α)}
theorem app_step (HL : Live w W rs) (hi : rs[i]? = some (RowS w.heap.size (Kd.slice e2 d) e (.slice (some ⟨g, 0, none⟩) n cap) xss)) (j : Int) (h0 : 0 ≤ j) (h1 : j < n) {v0 : Value} (hv : W.cell? ⟨g, j.toNat, none⟩ = some v0)
    (p : α) (cs : List Value) (s x : Tmp) (t : TypeId) (z : Value) (bytes : Nat) (hw : Region.wanted o (yielded ops a.tmps) = true)
    (ho : o.op = .call { callee := .builtin .append, args := #[.tmp s, .tmp x], argTypes := #[t, t] })
    (ht : P.underlying t = some (.slice e2)) (hinfo : (P.info? e2).map (fun i => (i.zero, i.size, i.bytes)) = some (some z, d.sz, bytes)) (hz : z.cells.size = d.sz) (hs0 : 0 < d.sz) (hb0 : 0 < bytes)
    (hs : a.eval (.tmp s) = v0) (hx : a.eval (.tmp x) = .slice (some ⟨W.heap.size, 0, none⟩) 1 1) (hp : d.M W w.heap.size (fun _ => False) p cs) (hl : ((xss.getD j.toNat []).length + 1) * bytes ≤ 140737488355328)
    (h : ∀ A1 c1 w1, w1.cell? ⟨g, j.toNat, none⟩ = some v0 → w1.frozen? ⟨g, j.toNat, none⟩ = false → Live w w1 (rs.set i Emp) →
      Live w (w1.setCell ⟨g, j.toNat, none⟩ (.slice A1 ((xss.getD j.toNat []).length + 1) c1)) (rs.set i (RowS w.heap.size (Kd.slice e2 d) e (.slice (some ⟨g, 0, none⟩) n cap) (xss.set j.toNat (xss.getD j.toNat [] ++ [p])))) → Kc (a.put o.dst (.slice A1 ((xss.getD j.toNat []).length + 1) c1)) w1) :
    if Region.wanted o (yielded ops a.tmps) = true then Oper.wp P o a (W.alloc (.cells cs.toArray e2)) Kc Q else Kc (a.put o.dst undef) (W.alloc (.cells cs.toArray e2)) := by
  obtain ⟨ok2, v, hv', _, hR, hnew, hend⟩ := HL.app hi j h0 h1
  obtain rfl := Option.some.inj (hv'.symm.trans hv)
  refine Kd.R_append_step d (w0 := w) w.heap.size hw (.tmp s) (.tmp x) t e2 z bytes ho ht hinfo hz hs0 hb0 v _ p cs ok2 (fun _ => False) hs hx hp (fun _ hk => hk.elim) hnew hR HL.hb HL.size hl ?_
  intro v1 w1 hr1 hb1 hg1 _
  obtain ⟨q1, q2, q3, q4⟩ := hend v1 w1 _ hr1 hb1 hg1
  obtain ⟨A1, c1, rfl, _⟩ := Kd.R_reads hr1
  rw [List.length_append] at q4 ⊢
  exact h A1 c1 w1 q1 q2 q3 q4
end
/-- Two rows that a call has made, apart by their element types. -/
theorem Live.add2 {α β : Type} {d : Kd α} {d2 : Kd β} {e e2 : Nat} {v v2 : Value} {xs : List α} {ys : List β} (h : Live w W rs) (hr : d.R e W1 W.heap.size (fun _ => True) v xs) (hr2 : d2.R e2 W1 W.heap.size (fun _ => True) v2 ys)
    (ht : ∀ q, q ∈ e :: d.E → ∀ q2, q2 ∈ e2 :: d2.E → q ≠ q2) (hb : Below W.heap.size W W1) : Live w W1 (rs ++ [Row w.heap.size d e v xs] ++ [Row w.heap.size d2 e2 v2 ys]) := by
  classical
  obtain ⟨h0, f, hf⟩ := h
  have b1 := Kd.R_bound hr
  have b2 := Kd.R_bound hr2
  refine ⟨below_step h0 hb, fun k => if W.heap.size ≤ k then (if (∃ q, q ∈ e :: d.E ∧ ∃ cells, W1.heap[k]? = some (.cells cells q (0, 0))) then rs.length else rs.length + 1) else f k, fun i q hi => ?_⟩
  have hsz : w.heap.size ≤ W.heap.size := h0.size
  rcases Nat.lt_trichotomy i rs.length with hl | hl | hl
  · rw [List.append_assoc, List.getElem?_append_left hl] at hi
    exact q.st (fun k hk hlt => by show (if W.heap.size ≤ k then _ else f k) = i; rw [if_neg (by omega)]; exact hk) (fun k _ hlt => hb.block k hlt) (hf i q hi)
  · subst hl
    rw [List.append_assoc, List.getElem?_append_right (Nat.le_refl _), Nat.sub_self] at hi
    obtain rfl := Option.some.inj hi
    refine Kd.R_lower (Kd.R_mono b1 (fun k hk => ?_)) hsz
    show (if W.heap.size ≤ k then _ else f k) = rs.length
    rw [if_pos hk.2.1, if_pos hk.2.2.2]
  · have hi2 : i = rs.length + 1 := by
      have := (List.getElem?_eq_some_iff.1 hi).1
      simp at this; omega
    subst hi2
    rw [List.append_assoc, List.getElem?_append_right (by omega), show rs.length + 1 - rs.length = 1 by omega] at hi
    obtain rfl := Option.some.inj hi
    refine Kd.R_lower (Kd.R_mono b2 (fun k hk => ?_)) hsz
    show (if W.heap.size ≤ k then _ else f k) = rs.length + 1
    rw [if_pos hk.2.1, if_neg]
    rintro ⟨q, hq, c1, hc1⟩
    obtain ⟨q2, hq2, c2, hc2⟩ := hk.2.2.2
    rw [hc1] at hc2
    obtain ⟨-, rfl, -⟩ : _ := by simpa using hc2
    exact ht _ hq _ hq2 rfl
/-- A free place is taken. -/
theorem Live.fill (h : Live w W rs) {i : Nat} (hi : rs[i]? = some Emp) (hb : Below W.heap.size W W1) (r : Res) (hr : r.P W1 (fun k => W.heap.size ≤ k)) : Live w W1 (rs.set i r) := by
  obtain ⟨ok, _, hn, h2⟩ := h.upd hi
  exact h2 W1 r (r.st (fun k hk _ => hn k hk) (fun _ _ _ => rfl) hr) (fun k hk _ => hb.block k hk) (below_step h.hb hb)
theorem Live.fill_row {α : Type} {d : Kd α} {e i : Nat} {v : Value} {xs : List α} (h : Live w W rs) (hi : rs[i]? = some Emp) (hr : d.R e W1 W.heap.size (fun _ => True) v xs) (hb : Below W.heap.size W W1) : Live w W1 (rs.set i (Row w.heap.size d e v xs)) :=
  h.fill hi hb _ (Kd.R_lower (Kd.R_mono (Kd.R_bound hr) (fun k hk => hk.2.1)) h.size)
theorem Live.fill_box (h : Live w W rs) {i : Nat} (hi : rs[i]? = some Emp) (cs : Array Value) (t : Nat) : Live w (W.alloc (.cells cs t (0, 0))) (rs.set i (Box W.heap.size cs t)) :=
  h.fill hi (below_alloc (Below.refl _ _) _) _ ⟨Nat.le_refl _, blk_new W _⟩
end Go.Proofs.Ytidomjhihfoabaa.Lv
