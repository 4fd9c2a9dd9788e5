/- More of Live: a map over whole numbers that the call has made; a row cut from the front; a row whose new element owns a row; a row of rows that is read. -/
import Derived.Test.YtidomjhihfoabaaLive3
import Derived.Maps.OwnSet
import Derived.Maps.Views
namespace Go.Proofs.Ytidomjhihfoabaa.Lv
open Go Go.RowKit Go.Lib Go.Proofs.YtidomjhihfoabaaW.PrintWords Go.Proofs.YtidomjhihfoabaaW.PrintLast
set_option linter.unusedVariables false
set_option linter.unusedSimpArgs false

/-- a map's entries, the latest first -/
def mget : List (Int × Int) → Int → Option Int
  | [], _ => none
  | p :: r, v => if p.1 = v then some p.2 else mget r v
/-- what a map of whole numbers holds -/
def MapD (D : DataW Unit) (ml : List (Int × Int)) : Prop :=
  Maps.IsMap D ∧ ∀ v : Int, (Lit.int .i64 v).wf = true → D.atKey (.int .i64 v) (.lit (.int .i64 0)) = .lit (.int .i64 ((mget ml v).getD 0)) ∧ Maps.has D (.int .i64 v) = (mget ml v).isSome
theorem mapD_nil : MapD (.map []) [] := ⟨Maps.isMap_empty, fun v _ => ⟨rfl, rfl⟩⟩
theorem isKey_int {v : Int} (h : (Lit.int .i64 v).wf = true) : WideAt.IsKeyLit (.int .i64 v) := by trivial
theorem mapD_put {D : DataW Unit} {ml : List (Int × Int)} (h : MapD D ml) {a b : Int} (ha : (Lit.int .i64 a).wf = true) : MapD (D.put (.int .i64 a) (.lit (.int .i64 b))) ((a, b) :: ml) := by
  refine ⟨h.1.put _ _, fun v hv => ?_⟩
  by_cases c : a = v
  · subst c
    rw [Maps.atKey_put_same h.1 (isKey_int ha), Maps.has_put_same h.1 (isKey_int ha)]
    simp [mget]
  · have hne : (Lit.int .i64 v) ≠ (Lit.int .i64 a) := fun e => c (by injection e with e1 e2; exact e2.symm)
    rw [Maps.atKey_put_other hne, Maps.has_put_other hne]
    simpa [mget, c] using h.2 v hv
/-- a map of the call's own -/
def MapI (P : Program) (K E : TypeId) (B : Nat) (ml : List (Int × Int)) : Res where
  P := fun W ok => ok B ∧ ∃ D : DataW Unit, W.ownsMap P K (plainElem P E) B ml.length D ∧ MapD D ml
  st := by
    intro W W1 ok ok' hm hs h
    obtain ⟨h1, D, h2, h3⟩ := h
    have hl := h2.lt
    refine ⟨hm B h1 hl, D, ?_, h3⟩
    obtain ⟨es, clock, hb, r⟩ := h2
    exact ⟨es, clock, (hs B h1 hl).trans hb, r⟩
section
variable {P : Program} {ops : Array Oper} {rest : List Oper} {o : Oper} {a : Act} {Q : Exit → Act → World → Prop} {w W : World} {rs : List Res}
/-- make(map[int]int) -/
theorem ev_map (HL : Aside0 (Live w W rs)) (K E : TypeId) (hgd : o.guard = none) {N : Tmp} (hd : o.dst = some N) (hrun : (execOp a.eval o).run P W = .ok (.value (.map (some W.heap.size))) (W.alloc (.map #[] 0)))
    (h : ∀ g w1, w.heap.size ≤ g → Aside0 (Live w w1 (rs ++ [MapI P K E g []])) → wpList P ops Q rest (a.put o.dst (.map (some g))) w1) : wpList P ops Q (o :: rest) a W :=
  Kd.event_run hgd hrun (h _ _ HL.out.size ⟨HL.out.add (below_alloc (Below.refl _ _) _) _ ⟨Nat.le_refl _, _, World.ownsMap_made _ _ _ _, mapD_nil⟩⟩)
theorem map_put (HL : Live w W rs) {i : Nat} {B : Nat} {ml : List (Int × Int)} {K E : TypeId} (hi : rs[i]? = some (MapI P K E B ml)) (hB : w.heap.size ≤ B) (T : TypeId) (hK : P.underlying K = some (.int .i64)) (hE : P.underlying E = some (.int .i64)) (hT : P.underlying T = some (.map K E))
    (hl : ml.length < maxLen) (x y : Int) (hx : (Lit.int .i64 x).wf = true) (hy : (Lit.int .i64 y).wf = true) :
    ∃ w1, (Instr.mapUpdate T (.map (some B)) (.int .i64 x) (.int .i64 y)).run P W = .ok () w1 ∧ Live w w1 (rs.set i (MapI P K E B ((x, y) :: ml))) := by
  obtain ⟨ok, hr, hn, h2⟩ := HL.upd hi
  obtain ⟨hok, D, hown, hD⟩ := hr
  obtain ⟨w1, hrun, hown1, hg⟩ := hown.update (Maps.int_keyed hK) hT hl (Maps.keyOf_int_mk hK hx) (plainElem_int hE hy)
  exact ⟨w1, hrun, h2 w1 _ ⟨hok, _, hown1, mapD_put hD hx⟩ (fun k hk hno => hg.block k hk (fun e => hno (by injection e with e; rw [e]; exact hok))) (HL.hb.grown hg HL.size (fun k e => by injection e with e; omega))⟩
/-- m[x] = y -/
theorem ev_mput (HL : Aside0 (Live w W rs)) {i : Nat} {B : Nat} {ml : List (Int × Int)} {K E : TypeId} (hi : rs[i]? = some (MapI P K E B ml)) (hB : w.heap.size ≤ B) (T : TypeId) (hK : P.underlying K = some (.int .i64)) (hE : P.underlying E = some (.int .i64)) (hT : P.underlying T = some (.map K E))
    (hl : ml.length < maxLen) (m k v : Operand) (x y : Int) (hgd : o.guard = none) (ho : o.op = .mapUpdate T m k v ∨ o.op = .insert T m k v) (hm : a.eval m = .map (some B)) (hk : a.eval k = .int .i64 x) (hv : a.eval v = .int .i64 y) (hx : (Lit.int .i64 x).wf = true) (hy : (Lit.int .i64 y).wf = true)
    (h : ∀ w1, Aside0 (Live w w1 (rs.set i (MapI P K E B ((x, y) :: ml)))) → wpList P ops Q rest (a.put o.dst undef) w1) : wpList P ops Q (o :: rest) a W := by
  obtain ⟨w1, hrun, hl1⟩ := map_put HL.out hi hB T hK hE hT hl x y hx hy
  refine wpList_plain hgd fun K' hK' => ?_
  unfold Oper.wp
  rcases ho with ho | ho
  · simp [execOp, ho, hm, hk, hv, hrun, Result.andThen]
    exact hK' _ _ (h w1 ⟨hl1⟩)
  · simp [execOp, ho, hm, hk, hv, hrun, Result.andThen]
    exact hK' _ _ (h w1 ⟨hl1⟩)
/-- y, ok := m[x] -/
theorem ev_mget (HL : Aside0 (Live w W rs)) {i : Nat} {B : Nat} {ml : List (Int × Int)} {K E : TypeId} (hi : rs[i]? = some (MapI P K E B ml)) (T : TypeId) (hK : P.underlying K = some (.int .i64)) (hE : P.underlying E = some (.int .i64)) (hT : P.underlying T = some (.map K E))
    (hz : (zeroValue E).run P W = .ok (.int .i64 0) W) (m k : Operand) (x : Int) (hgd : o.guard = none) (ho : o.op = .lookup T m k true) (hm : a.eval m = .map (some B)) (hk : a.eval k = .int .i64 x) (hx : (Lit.int .i64 x).wf = true)
    (h : wpList P ops Q rest (a.put o.dst (.tuple #[.int .i64 ((mget ml x).getD 0), .bool (mget ml x).isSome])) W) : wpList P ops Q (o :: rest) a W := by
  obtain ⟨ok, hok, D, hown, hD⟩ := HL.out.at_ hi
  refine wpList_lookup_own_ok_int W hgd m k T ho K E .i64 (Maps.int_keyed hK) hT hE hz B ml.length D hm hown (.int .i64 x) (.int .i64 x) hk (Maps.keyOf_int_mk hK hx) ?_
  intro c hc _
  obtain ⟨h1, h2⟩ := hD.2 x hx
  rw [h1] at hc
  injection hc with hc
  injection hc with _ hc
  rw [← hc, h2]
  exact h
end
/-- The first k of a queue are cut off. -/
theorem Live.cut {α : Type} {d : Kd α} {b e i : Nat} {w W : World} {rs : List Res} {P : Program} {t : TypeId} {z : Value} {bytes n c : Nat} {A : Option Addr} {q : List α} (h : Live w W rs) (hi : rs[i]? = some (RowQ b d e (.slice A n c) q)) (k : Nat) (hk : k ≤ q.length)
    (ht : P.underlying t = some (.slice e)) (hinfo : (P.info? e).map (fun i => (i.zero, i.size, i.bytes)) = some (some z, d.sz, bytes)) :
    ∃ A' c', (∀ W' : World, (Instr.slice t (.slice A n c) (some (.int .i64 (k : Int))) none none).run P W' = .ok (.slice A' (q.drop k).length c') W') ∧ Live w W (rs.set i (RowQ b d e (.slice A' (q.drop k).length c') (q.drop k))) := by
  obtain ⟨ok, hr⟩ := h.at_ hi
  have hn : n = q.length := (Kd.Q_reads' hr).1
  subst hn
  obtain ⟨i0, hi0, hzz⟩ := Option.map_eq_some_iff.1 hinfo
  simp only [Prod.mk.injEq] at hzz
  have hcut := cut_from (P := P) t e .i64 ht hi0 d.sz hzz.2.1 A q.length c (k : Int) (by omega) (by omega)
  rw [List.length_drop]
  refine ⟨(if c = k then A else A.map (·.add (k * d.sz))), c - k, fun W' => hcut W', h.turn hi _ (fun ok hr => ?_)⟩
  exact Kd.Q_drop hr hk
/-- Two resources become one. -/
theorem Live.join {w W : World} {rs : List Res} (h : Live w W rs) {i j : Nat} {r q : Res} (hij : i ≠ j) (hi : rs[i]? = some r) (hj : rs[j]? = some q) : ∃ ok1 ok2 : Nat → Prop, r.P W ok1 ∧ q.P W ok2 ∧ (∀ k, ok1 k → ¬ ok2 k) ∧ (∀ k, W.heap.size ≤ k → ok1 k) ∧
    ∀ (W1 : World) (r' : Res), r'.P W1 (fun k => ok1 k ∨ ok2 k) → (∀ k, k < W.heap.size → ¬ (ok1 k ∨ ok2 k) → W1.heap[k]? = W.heap[k]?) → Below w.heap.size w W1 → Live w W1 ((rs.set i r').set j Emp) := by
  obtain ⟨h0, f, hf⟩ := h
  have hil : i < rs.length := (List.getElem?_eq_some_iff.1 hi).1
  have hjl : j < rs.length := (List.getElem?_eq_some_iff.1 hj).1
  refine ⟨fun k => if W.heap.size ≤ k then True else f k = i, fun k => k < W.heap.size ∧ f k = j, ?_, ?_, ?_, fun k hk => by simp only [if_pos hk], ?_⟩
  · exact r.st (fun k hk hlt => by simp only [if_neg (Nat.not_le.2 hlt)]; exact hk) (fun _ _ _ => rfl) (hf i r hi)
  · exact q.st (fun k hk hlt => ⟨hlt, hk⟩) (fun _ _ _ => rfl) (hf j q hj)
  · intro k h1 h2
    rw [if_neg (by omega)] at h1
    exact hij (h1.symm.trans h2.2)
  · intro W1 r' hr' hs hb
    refine ⟨hb, fun k => if W.heap.size ≤ k then i else if f k = j then i else f k, fun m p hm => ?_⟩
    rw [List.getElem?_set] at hm
    by_cases e : j = m
    · subst e
      rw [if_pos rfl, if_pos (by simpa using hjl)] at hm
      obtain rfl := Option.some.inj hm
      exact trivial
    · rw [if_neg e, List.getElem?_set] at hm
      by_cases e2 : i = m
      · subst e2
        rw [if_pos rfl, if_pos hil] at hm
        obtain rfl := Option.some.inj hm
        refine r'.st (fun k hk hlt => ?_) (fun _ _ _ => rfl) hr'
        by_cases c : W.heap.size ≤ k
        · simp only [if_pos c]
        · simp only [if_neg c] at hk ⊢
          by_cases c2 : f k = j
          · simp only [if_pos c2]
          · simp only [if_neg c2]
            rcases hk with hk | hk
            · exact hk
            · exact absurd hk.2 c2
      · rw [if_neg e2] at hm
        refine p.st (ok := fun k => f k = m) (fun k hk hlt => ?_) (fun k hk hlt => hs k hlt ?_) (hf m p hm)
        · have : ¬ f k = j := fun q => e (q.symm.trans hk)
          simp only [if_neg (Nat.not_le.2 hlt), if_neg this]; exact hk
        · rintro (q | q)
          · rw [if_neg (Nat.not_le.2 hlt)] at q; exact e2 (q.symm.trans hk)
          · exact e (q.2.symm.trans hk)
section
variable {P : Program} {ops : Array Oper} {rest : List Oper} {o : Oper} {a : Act} {Q : Exit → Act → World → Prop} {α β : Type} {d : Kd α} {d2 : Kd β} {e e2 i j : Nat} {w W : World} {rs : List Res}
/-- A row grows by one element that leads to a row of the call's own, which is no longer told beside it. -/
theorem ev_append_row (HL : Aside0 (Live w W rs)) {v : Value} {xs : List α} {v2 : Value} {ys : List β} (hij : i ≠ j) (hi : rs[i]? = some (Row w.heap.size d e v xs)) (hj : rs[j]? = some (Row w.heap.size d2 e2 v2 ys)) (p : α) (cs : List Value) (s x : Tmp) (t : TypeId) (z : Value) (bytes : Nat) (hgd : o.guard = none)
    (ho : o.op = .call { callee := .builtin .append, args := #[.tmp s, .tmp x], argTypes := #[t, t] })
    (ht : P.underlying t = some (.slice e)) (hinfo : (P.info? e).map (fun i => (i.zero, i.size, i.bytes)) = some (some z, d.sz, bytes)) (hz : z.cells.size = d.sz) (hs0 : 0 < d.sz) (hb0 : 0 < bytes)
    (hs : a.eval (.tmp s) = v) (hx : a.eval (.tmp x) = .slice (some ⟨W.heap.size, 0, none⟩) 1 1) (hp : ∀ ok, d2.R e2 W w.heap.size ok v2 ys → d.M W w.heap.size ok p cs) (hl : (xs.length + 1) * bytes ≤ 140737488355328)
    (h : ∀ v1 w1, Aside0 (Live w w1 ((rs.set i (Row w.heap.size d e v1 (xs ++ [p]))).set j Emp)) → wpList P ops Q rest (a.put o.dst v1) w1) : wpList P ops Q (o :: rest) a (W.alloc (.cells cs.toArray e)) := by
  obtain ⟨ok1, ok2, hr, hr2, hdis, hn, h2⟩ := HL.out.join hij hi hj
  have hr' : d.R e W w.heap.size ok1 v xs := hr
  have hr2' : d2.R e2 W w.heap.size ok2 v2 ys := hr2
  have hR : d.R e W w.heap.size (fun k => ok1 k ∨ ok2 k) v xs := Kd.R_mono hr' (fun k hk => .inl hk)
  refine Kd.R_append d (w0 := w) w.heap.size hgd (.tmp s) (.tmp x) t e z bytes ho ht hinfo hz hs0 hb0 v xs p cs (fun k => ok1 k ∨ ok2 k) ok2 hs hx (hp ok2 hr2') (fun k hk => ⟨.inr hk, fun e => hdis k (hr'.1 k e.symm) hk⟩) (fun k hk => .inl (hn k hk)) hR HL.out.hb HL.out.size hl ?_
  intro v1 w1 hr1 hb1 hg hat
  exact h v1 w1 ⟨h2 w1 _ hr1 (fun k hk hno => hg.block k hk (fun e => hno (.inl (hr'.1 k e.symm)))) hb1⟩
end
end Go.Proofs.Ytidomjhihfoabaa.Lv
