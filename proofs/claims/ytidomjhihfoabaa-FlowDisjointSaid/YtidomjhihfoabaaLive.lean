/- What a call has made and still uses, told as a list of resources that share no block: boxes, rows. One law for each event of a walk. -/
import Derived.Test.YtidomjhihfoabaaWApart
import Derived.Test.YtidomjhihfoabaaWMore
namespace Go.Proofs.Ytidomjhihfoabaa.Lv
open Go Go.RowKit Go.Lib Go.Proofs.YtidomjhihfoabaaW.PrintWords Go.Proofs.YtidomjhihfoabaaW.PrintLast
set_option linter.unusedVariables false
set_option linter.unusedSimpArgs false

/-- A resource: what holds of the blocks that are its own. -/
structure Res where
  P : World → (Nat → Prop) → Prop
  st : ∀ {W W1 : World} {ok ok' : Nat → Prop}, (∀ k, ok k → k < W.heap.size → ok' k) → (∀ k, ok k → k < W.heap.size → W1.heap[k]? = W.heap[k]?) → P W ok → P W1 ok'

def Box (g : Nat) (cs : Array Value) (t : Nat) : Res where
  P := fun W ok => ok g ∧ W.heap[g]? = some (.cells cs t (0, 0))
  st := fun hm hs h => ⟨hm g h.1 (blk_lt h.2), (hs g h.1 (blk_lt h.2)).trans h.2⟩
def Row {α : Type} (b : Nat) (d : Kd α) (e : Nat) (v : Value) (xs : List α) : Res where
  P := fun W ok => d.R e W b ok v xs
  st := fun hm hs h => Kd.R_mono (Kd.R_step (Kd.R_bound h) (fun k hk hl => hs k hk.1 hl)) (fun k hk => hm k hk.1 hk.2.2.1)
def RowS {α : Type} (b : Nat) (d : Kd α) (e : Nat) (v : Value) (xs : List α) : Res where
  P := fun W ok => Kd.S d e W b ok v xs
  st := fun hm hs h => Kd.S_mono (Kd.S_step (Kd.S_bound h) (fun k hk hl => hs k hk.1 hl)) (fun k hk => hm k hk.1 hk.2.2.1)
def RowQ {α : Type} (b : Nat) (d : Kd α) (e : Nat) (v : Value) (xs : List α) : Res where
  P := fun W ok => d.Q e W b ok v xs
  st := fun hm hs h => Kd.Q_mono (Kd.Q_step (Kd.Q_bound h) (fun k hk hl => hs k hk.1 hl)) (fun k hk => hm k hk.1 hk.2.2.1)
/-- Nothing (a place in the list that is free). -/
def Emp : Res where
  P := fun _ _ => True
  st := fun _ _ _ => trivial

/-- The call began in w; the world is W; rs is what it has, each with blocks of its own. -/
structure Live (w W : World) (rs : List Res) : Prop where
  hb : Below w.heap.size w W
  sep : ∃ f : Nat → Nat, ∀ (i : Nat) (r : Res), rs[i]? = some r → r.P W (fun k => f k = i)

variable {w W W1 : World} {rs : List Res}

theorem Live.nil (w : World) : Live w w [] := ⟨Below.refl _ w, fun _ => 0, fun i r h => by simp at h⟩
theorem Live.size (h : Live w W rs) : w.heap.size ≤ W.heap.size := h.hb.size
/-- Nothing that lay there has turned. -/
theorem Live.same (h : Live w W rs) (hb : Below W.heap.size W W1) : Live w W1 rs := by
  obtain ⟨h0, f, hf⟩ := h
  exact ⟨below_step h0 hb, f, fun i r hi => r.st (fun k hk _ => hk) (fun k _ hl => hb.block k hl) (hf i r hi)⟩
theorem Live.drew (h : Live w W rs) : Live w W.drew rs := h.same (below_drew1 (Below.refl _ _))
theorem Live.drewN (h : Live w W rs) (n : Nat) : Live w (W.drewN n) rs := h.same (pw_below_drewN (Below.refl _ _) n)
theorem Live.alloc (h : Live w W rs) (o : Obj) : Live w (W.alloc o) rs := h.same (below_alloc (Below.refl _ _) o)
/-- Something new, of new blocks. -/
theorem Live.add (h : Live w W rs) (hb : Below W.heap.size W W1) (r : Res) (hr : r.P W1 (fun k => W.heap.size ≤ k)) : Live w W1 (rs ++ [r]) := by
  obtain ⟨h0, f, hf⟩ := h
  refine ⟨below_step h0 hb, fun k => if W.heap.size ≤ k then rs.length else f k, fun i q hi => ?_⟩
  rcases Nat.lt_or_ge i rs.length with hl | hl
  · rw [List.getElem?_append_left hl] at hi
    exact q.st (fun k hk hlt => by show (if W.heap.size ≤ k then rs.length else f k) = i; rw [if_neg (by omega)]; exact hk) (fun k _ hlt => hb.block k hlt) (hf i q hi)
  · have e : i = rs.length := by
      have := (List.getElem?_eq_some_iff.1 hi).1
      simp at this; omega
    subst e
    rw [List.getElem?_append_right (Nat.le_refl _), Nat.sub_self] at hi
    obtain rfl := Option.some.inj hi
    exact r.st (fun k hk _ => by show (if W.heap.size ≤ k then rs.length else f k) = rs.length; rw [if_pos hk]) (fun _ _ _ => rfl) hr
/-- One is changed: what it had, and what is new, may turn. -/
theorem Live.upd (h : Live w W rs) {i : Nat} {r : Res} (hi : rs[i]? = some r) : ∃ ok : Nat → Prop, r.P W ok ∧ (∀ k, W.heap.size ≤ k → ok k) ∧
    ∀ (W1 : World) (r' : Res), r'.P W1 ok → (∀ k, k < W.heap.size → ¬ ok k → W1.heap[k]? = W.heap[k]?) → Below w.heap.size w W1 → Live w W1 (rs.set i r') := by
  obtain ⟨h0, f, hf⟩ := h
  have hil : i < rs.length := (List.getElem?_eq_some_iff.1 hi).1
  refine ⟨fun k => (if W.heap.size ≤ k then i else f k) = i, ?_, fun k hk => by show (if W.heap.size ≤ k then i else f k) = i; rw [if_pos hk], ?_⟩
  · exact r.st (fun k hk hlt => by show (if W.heap.size ≤ k then i else f k) = i; rw [if_neg (by omega)]; exact hk) (fun _ _ _ => rfl) (hf i r hi)
  · intro W1 r' hr' hs hb
    refine ⟨hb, fun k => if W.heap.size ≤ k then i else f k, fun j q hj => ?_⟩
    rw [List.getElem?_set] at hj
    by_cases e : i = j
    · subst e
      rw [if_pos rfl, if_pos hil] at hj
      obtain rfl := Option.some.inj hj
      exact hr'
    · rw [if_neg e] at hj
      refine q.st (ok := fun k => f k = j) (fun k hk hlt => ?_) (fun k hk hlt => hs k hlt ?_) (hf j q hj)
      · show (if W.heap.size ≤ k then i else f k) = j
        rw [if_neg (by omega)]; exact hk
      · show ¬ (if W.heap.size ≤ k then i else f k) = i
        rw [if_neg (by omega), hk]; exact Ne.symm e
/-- One is told otherwise, the world being the same. -/
theorem Live.turn (h : Live w W rs) {i : Nat} {r : Res} (hi : rs[i]? = some r) (r' : Res) (hr : ∀ ok, r.P W ok → r'.P W ok) : Live w W (rs.set i r') := by
  obtain ⟨ok, h1, _, h2⟩ := h.upd hi
  exact h2 W r' (hr ok h1) (fun _ _ _ => rfl) h.hb
theorem Live.at_ (h : Live w W rs) {i : Nat} {r : Res} (hi : rs[i]? = some r) : ∃ ok, r.P W ok := by
  obtain ⟨_, f, hf⟩ := h
  exact ⟨_, hf i r hi⟩
/-- Two of them at once: their blocks are apart. -/
theorem Live.two (h : Live w W rs) {i j : Nat} {r q : Res} (hij : i ≠ j) (hi : rs[i]? = some r) (hj : rs[j]? = some q) : ∃ ok ok' : Nat → Prop, r.P W ok ∧ q.P W ok' ∧ ∀ k, ok k → ¬ ok' k := by
  obtain ⟨_, f, hf⟩ := h
  exact ⟨_, _, hf i r hi, hf j q hj, fun k h1 h2 => hij (h1.symm.trans h2)⟩
theorem Live.drop_last {r : Res} (h : Live w W (rs ++ [r])) : Live w W rs := by
  obtain ⟨h0, f, hf⟩ := h
  refine ⟨h0, f, fun i q hi => hf i q ?_⟩
  rw [List.getElem?_append_left (List.getElem?_eq_some_iff.1 hi).1]; exact hi

/-- What lay there when the call began reads as it did. -/
theorem Live.old (h : Live w W rs) {a : Addr} {v : Value} (hc : w.cell? a = some v) : W.cell? a = some v := (h.hb.cell (World.block_lt_of_cell? w _ hc)).trans hc

/-! ### boxes -/
theorem Live.box (h : Live w W rs) {i g : Nat} {cs : Array Value} {t : Nat} (hi : rs[i]? = some (Box g cs t)) : W.heap[g]? = some (.cells cs t (0, 0)) := by
  obtain ⟨ok, h1⟩ := h.at_ hi
  exact h1.2
theorem Live.box_cell (h : Live w W rs) {i g : Nat} {cs : Array Value} {t : Nat} (hi : rs[i]? = some (Box g cs t)) (j : Nat) : W.cell? ⟨g, j, none⟩ = cs[j]? := blk_cell (h.box hi) j
theorem Live.box_fz (h : Live w W rs) {i g : Nat} {cs : Array Value} {t : Nat} (hi : rs[i]? = some (Box g cs t)) (j : Nat) : W.frozen? ⟨g, j, none⟩ = false := blk_frozen (h.box hi) j
theorem setCell_block {g : Nat} {cs : Array Value} {t : Nat} (h : W.heap[g]? = some (.cells cs t (0, 0))) (j : Nat) (u : Value) : (W.setCell ⟨g, j, none⟩ u).heap[g]? = some (.cells (cs.setIfInBounds j u) t (0, 0)) := by
  unfold World.setCell
  simp [Array.getElem?_modify, h]
theorem setCell_size (W : World) (p : Addr) (u : Value) : (W.setCell p u).heap.size = W.heap.size := by
  unfold World.setCell
  split <;> simp
theorem Live.setbox (h : Live w W rs) {i g : Nat} {cs : Array Value} {t : Nat} (hi : rs[i]? = some (Box g cs t)) (hg : w.heap.size ≤ g) (j : Nat) (u : Value) :
    Live w (W.setCell ⟨g, j, none⟩ u) (rs.set i (Box g (cs.setIfInBounds j u) t)) := by
  obtain ⟨ok, h1, _, h2⟩ := h.upd hi
  refine h2 _ _ ⟨h1.1, setCell_block h1.2 j u⟩ (fun k hk hn => Below.heap_setCell W ⟨g, j, none⟩ u k (fun e => hn (by rw [e]; exact h1.1))) ?_
  exact below_set h.hb hg
theorem Live.newbox (h : Live w W rs) (cs : Array Value) (t : Nat) : Live w (W.alloc (.cells cs t (0, 0))) (rs ++ [Box W.heap.size cs t]) :=
  h.add (below_alloc (Below.refl _ _) _) _ ⟨Nat.le_refl _, blk_new W _⟩

/-! ### rows -/
section
variable {α : Type} {d : Kd α} {e b : Nat} {v : Value} {xs : List α} {i : Nat}
theorem Live.row (h : Live w W rs) (hi : rs[i]? = some (Row b d e v xs)) : d.R e W b (fun _ => True) v xs := by
  obtain ⟨ok, h1⟩ := h.at_ hi
  exact Kd.R_mono h1 (fun _ _ => trivial)
theorem Live.rowS (h : Live w W rs) (hi : rs[i]? = some (RowS b d e v xs)) : Kd.S d e W b (fun _ => True) v xs := by
  obtain ⟨ok, h1⟩ := h.at_ hi
  exact Kd.S_mono h1 (fun _ _ => trivial)
theorem Live.rowQ (h : Live w W rs) (hi : rs[i]? = some (RowQ b d e v xs)) : d.Q e W b (fun _ => True) v xs := by
  obtain ⟨ok, h1⟩ := h.at_ hi
  exact Kd.Q_mono h1 (fun _ _ => trivial)
theorem Live.row_C (h : Live w W rs) (hi : rs[i]? = some (Row b d e v xs)) : ∃ A c, v = .slice A xs.length c ∧ xs.length ≤ c ∧ d.C W A xs.length xs := Kd.R_reads (h.row hi)
theorem Live.rowQ_C (h : Live w W rs) (hi : rs[i]? = some (RowQ b d e v xs)) : ∃ A c, v = .slice A xs.length c ∧ xs.length ≤ c ∧ d.C W A xs.length xs := Kd.Q_reads (h.rowQ hi)
/-- A row that a call has made. -/
theorem Live.add_row (h : Live w W rs) {v1 : Value} {ys : List α} (hr : d.R e W1 W.heap.size (fun _ => True) v1 ys) (hb : Below W.heap.size W W1) : Live w W1 (rs ++ [Row w.heap.size d e v1 ys]) :=
  h.add hb _ (Kd.R_lower (Kd.R_mono (Kd.R_bound hr) (fun k hk => hk.2.1)) h.size)
theorem Live.add_nil (h : Live w W rs) (d : Kd α) (e : Nat) : Live w W (rs ++ [Row w.heap.size d e (.slice none 0 0) []]) :=
  h.add (Below.refl _ _) _ (Kd.R_nil d e W _ _)
/-- One cell of a row of one-cell elements is written. -/
theorem Live.put {enc : α → Value} {h1 : ∀ x : α, (enc x).oneCell' = true} {g n cap : Nat} (h : Live w W rs) (hi : rs[i]? = some (Row w.heap.size (Kd.scalar enc h1) e (.slice (some ⟨g, 0, none⟩) n cap) xs)) (j : Int) (x : α) :
    Live w (W.setCell ⟨g, j.toNat, none⟩ (enc x)) (rs.set i (Row w.heap.size (Kd.scalar enc h1) e (.slice (some ⟨g, 0, none⟩) n cap) (xs.set j.toNat x))) := by
  obtain ⟨ok, hr, _, h2⟩ := h.upd hi
  have hr' : (Kd.scalar enc h1).R e W w.heap.size ok (.slice (some ⟨g, 0, none⟩) n cap) xs := hr
  have hg : ok g := hr'.1 g (by simp [Value.ownBlock])
  have hgb : w.heap.size ≤ g := Kd.R_base hr' g (by simp [Value.ownBlock])
  exact h2 _ _ (Kd.R_putn hr' j x) (fun k hk hn => Below.heap_setCell W ⟨g, j.toNat, none⟩ _ k (fun e => hn (by rw [e]; exact hg))) (below_set h.hb hgb)
/-- The cells of one element (of several cells) are written anew. -/
theorem Live.seg {g n cap : Nat} (h : Live w W rs) (hi : rs[i]? = some (Row w.heap.size d e (.slice (some ⟨g, 0, none⟩) n cap) xs)) (j : Int) (h0 : 0 ≤ j) (h1 : j < n) (x : α) {cs : List Value} (hc : cs.length = d.sz) (hM : d.M W w.heap.size (fun _ => False) x cs) :
    Live w (W.setCells g (j.toNat * d.sz) cs) (rs.set i (Row w.heap.size d e (.slice (some ⟨g, 0, none⟩) n cap) (xs.set j.toNat x))) := by
  obtain ⟨ok, hr, _, h2⟩ := h.upd hi
  have hr' : d.R e W w.heap.size ok (.slice (some ⟨g, 0, none⟩) n cap) xs := hr
  have hn := Kd.R_reads' hr'
  have hj : j.toNat < xs.length := by omega
  have hg : ok g := hr'.1 g (by simp [Value.ownBlock])
  have hgb : w.heap.size ≤ g := Kd.R_base hr' g (by simp [Value.ownBlock])
  obtain ⟨ad, c, ea, hcl, _, hcc⟩ := Kd.C_get hn.2.2 x j h0 (by omega)
  have hcc' : ∀ m u, c[m]? = some u → W.cell? ⟨g, j.toNat * d.sz + m, none⟩ = some u := by
    intro m u hu
    have := hcc m u hu
    have e2 : ad = ⟨g, 0, none⟩ := (Option.some.inj ea).symm
    rw [e2, add_plain] at this
    exact this
  have hcl' : c.length = d.sz := hcl
  obtain ⟨hrow, hgr⟩ := Kd.R_seg hr' j h0 h1 (c := c) (seg := cs) (j := 0) hcl' hcc' (by omega) (x' := x) (okp := fun _ => False) (by
    have e3 : c.take 0 ++ cs ++ c.drop (0 + cs.length) = cs := by rw [List.take_zero, List.nil_append, Nat.zero_add, List.drop_of_length_le (by omega), List.append_nil]
    rw [e3]; exact hM) (fun _ hk => hk.elim)
  refine h2 _ _ hrow (fun k hk hn => setCells_far cs _ k (fun e => hn (by rw [e]; exact hg))) ?_
  refine h.hb.trans ⟨hgr.os, hgr.tape, hgr.output, hgr.size, fun k hk => setCells_far cs _ k (by omega)⟩
/-- The first of a queue is taken off. -/
theorem Live.pop {P : Program} {t : TypeId} {z : Value} {bytes n c : Nat} {A : Option Addr} {x : α} {q : List α} (h : Live w W rs) (hi : rs[i]? = some (RowQ b d e (.slice A n c) (x :: q)))
    (ht : P.underlying t = some (.slice e)) (hinfo : (P.info? e).map (fun i => (i.zero, i.size, i.bytes)) = some (some z, d.sz, bytes)) :
    ∃ A' c', (∀ W' : World, (Instr.slice t (.slice A n c) (some (.int .i64 1)) none none).run P W' = .ok (.slice A' q.length c') W') ∧ Live w W (rs.set i (RowQ b d e (.slice A' q.length c') q)) := by
  obtain ⟨ok, hr⟩ := h.at_ hi
  have hn : n = (x :: q).length := (Kd.Q_reads' hr).1
  subst hn
  obtain ⟨i0, hi0, hzz⟩ := Option.map_eq_some_iff.1 hinfo
  simp only [Prod.mk.injEq] at hzz
  have hcut := cut_from (P := P) t e .i64 ht hi0 d.sz hzz.2.1 A (x :: q).length c 1 (by omega) (by simp; omega)
  refine ⟨(if c = 1 then A else A.map (·.add (1 * d.sz))), c - 1, fun W' => hcut W', h.turn hi _ (fun ok hr => ?_)⟩
  exact Kd.Q_drop (k := 1) hr (by simp)
/-- An element of a row of rows that is read. -/
theorem at_rows {A : Option Addr} {n e : Nat} {xss : List (List α)} (h : Kd.C (Kd.slice e d) w A n xss) (j : Int) (h0 : 0 ≤ j) (h1 : j < n) :
    ∃ ad A0 c0, A = some ad ∧ w.cell? (ad.add j.toNat) = some (.slice A0 (xss.getD j.toNat []).length c0) ∧ (xss.getD j.toNat []).length ≤ c0 ∧ d.C w A0 (xss.getD j.toNat []).length (xss.getD j.toNat []) := by
  obtain ⟨ad, c, e, _, hK, hc0⟩ := Kd.C_get h ([] : List α) j h0 h1
  have hc : ∀ m u, c[m]? = some u → w.cell? (ad.add (j.toNat * 1 + m)) = some u := hc0
  obtain ⟨A0, c0, rfl, l0, g0⟩ := hK
  exact ⟨ad, A0, c0, e, by simpa using hc 0 _ rfl, l0, g0⟩
end

/-! ### blocks that are not one another -/
def Res.Has (r : Res) (g : Nat) : Prop := ∀ W ok, r.P W ok → ok g
theorem has_box (g : Nat) (cs : Array Value) (t : Nat) : (Box g cs t).Has g := fun _ _ h => h.1
theorem has_row {α : Type} {d : Kd α} {e b g n c : Nat} {xs : List α} : (Row b d e (.slice (some ⟨g, 0, none⟩) n c) xs).Has g := fun _ _ h => h.1 g (by simp [Value.ownBlock])
theorem has_rowS {α : Type} {d : Kd α} {e b g n c : Nat} {xs : List α} : (RowS b d e (.slice (some ⟨g, 0, none⟩) n c) xs).Has g := fun _ _ h => (Kd.S_R h).1 g (by simp [Value.ownBlock])
theorem has_rowQ {α : Type} {d : Kd α} {e b g o n c : Nat} {xs : List α} : (RowQ b d e (.slice (some ⟨g, o, none⟩) n c) xs).Has g := fun _ _ h => h.1 g (by simp [Value.ownBlock])
theorem Live.ne (h : Live w W rs) {i j : Nat} {r q : Res} {g g' : Nat} (hij : i ≠ j) (hi : rs[i]? = some r) (hj : rs[j]? = some q) (h1 : r.Has g) (h2 : q.Has g') : g ≠ g' := by
  obtain ⟨ok, ok', hr, hq, hap⟩ := h.two hij hi hj
  rintro rfl
  exact hap g (h1 W ok hr) (h2 W ok' hq)

/-! ### the events of a walk -/
section
variable {P : Program} {ops : Array Oper} {o : Oper} {rest : List Oper} {a : Act} {Q : Exit → Act → World → Prop} {α : Type} {d : Kd α} {e : Nat}
/-- A box is made. -/
theorem ev_new (HL : Aside0 (Live w W rs)) (cs : Array Value) (t : Nat) (hgd : o.guard = none) (N : Tmp) (hd : o.dst = some N)
    (hrun : (execOp a.eval o).run P W = .ok (.value (.pointer (some ⟨W.heap.size, 0, none⟩))) (W.alloc (.cells cs t (0, 0))))
    (h : ∀ g w1, w.heap.size ≤ g → Aside0 (Live w w1 (rs ++ [Box g cs t])) → wpList P ops Q rest (a.put o.dst (.pointer (some ⟨g, 0, none⟩))) w1) : wpList P ops Q (o :: rest) a W :=
  box_event hgd hd hrun (fun g hg w1 hc hb => by
    subst hg
    exact h _ w1 HL.out.size ⟨HL.out.add hb _ ⟨Nat.le_refl _, hc⟩⟩)
/-- Cells are written. -/
theorem ev_set {w1 : World} {rs' : List Res} (HL : Aside0 (Live w W rs)) (hl : Live w W rs → Live w w1 rs') (t : TypeId) (p : Tmp) {v : Operand} (hgd : o.guard = none) (ho : o.op = .store t (.tmp p) v) (hN : o.dst = none)
    (hrun : (execOp a.eval o).run P W = .ok .skip w1) (h : ∀ w', Aside0 (Live w w' rs') → wpList P ops Q rest a w') : wpList P ops Q (o :: rest) a W :=
  store_event hgd ho hN hrun (fun w' hw => by
    subst hw
    exact h _ ⟨hl HL.out⟩)
/-- A row grows by one element that leads to nothing. -/
theorem ev_append (HL : Aside0 (Live w W rs)) {i : Nat} {v : Value} {xs : List α} (hi : rs[i]? = some (Row w.heap.size d e v xs)) (p : α) (cs : List Value) (s x : Tmp) (t : TypeId) (z : Value) (bytes : Nat) (hgd : o.guard = none)
    (ho : o.op = .call { callee := .builtin .append, args := #[.tmp s, .tmp x], argTypes := #[t, t] })
    (ht : P.underlying t = some (.slice e)) (hinfo : (P.info? e).map (fun i => (i.zero, i.size, i.bytes)) = some (some z, d.sz, bytes)) (hz : z.cells.size = d.sz) (hs0 : 0 < d.sz) (hb0 : 0 < bytes)
    (hs : a.eval (.tmp s) = v) (hx : a.eval (.tmp x) = .slice (some ⟨W.heap.size, 0, none⟩) 1 1) (hp : d.M W w.heap.size (fun _ => False) p cs) (hl : (xs.length + 1) * bytes ≤ 140737488355328)
    (h : ∀ v1 w1, Aside0 (Live w w1 (rs.set i (Row w.heap.size d e v1 (xs ++ [p])))) → wpList P ops Q rest (a.put o.dst v1) w1) : wpList P ops Q (o :: rest) a (W.alloc (.cells cs.toArray e)) := by
  obtain ⟨ok, hr, hn, h2⟩ := HL.out.upd hi
  refine Kd.R_append d (w0 := w) w.heap.size hgd (.tmp s) (.tmp x) t e z bytes ho ht hinfo hz hs0 hb0 v xs p cs ok (fun _ => False) hs hx hp (fun _ hk => hk.elim) hn hr HL.out.hb HL.out.size hl ?_
  intro v1 w1 hr1 hb1 hg hat
  refine h v1 w1 ⟨h2 w1 _ hr1 (fun k hk hno => hg.block k hk (fun e => hno (hr.1 k e.symm))) hb1⟩
theorem ev_appendQ (HL : Aside0 (Live w W rs)) {i : Nat} {v : Value} {xs : List α} (hi : rs[i]? = some (RowQ w.heap.size d e v xs)) (p : α) (cs : List Value) (s x : Tmp) (t : TypeId) (z : Value) (bytes : Nat) (hgd : o.guard = none)
    (ho : o.op = .call { callee := .builtin .append, args := #[.tmp s, .tmp x], argTypes := #[t, t] })
    (ht : P.underlying t = some (.slice e)) (hinfo : (P.info? e).map (fun i => (i.zero, i.size, i.bytes)) = some (some z, d.sz, bytes)) (hz : z.cells.size = d.sz) (hs0 : 0 < d.sz) (hb0 : 0 < bytes)
    (hs : a.eval (.tmp s) = v) (hx : a.eval (.tmp x) = .slice (some ⟨W.heap.size, 0, none⟩) 1 1) (hp : d.M W w.heap.size (fun _ => False) p cs) (hl : (xs.length + 1) * bytes ≤ 140737488355328)
    (h : ∀ v1 w1, Aside0 (Live w w1 (rs.set i (RowQ w.heap.size d e v1 (xs ++ [p])))) → wpList P ops Q rest (a.put o.dst v1) w1) : wpList P ops Q (o :: rest) a (W.alloc (.cells cs.toArray e)) := by
  obtain ⟨ok, hr, hn, h2⟩ := HL.out.upd hi
  refine Kd.Q_append d (w0 := w) w.heap.size hgd (.tmp s) (.tmp x) t e z bytes ho ht hinfo hz hs0 hb0 v xs p cs ok (fun _ => False) hs hx hp (fun _ hk => hk.elim) hn hr HL.out.hb HL.out.size hl ?_
  intro v1 w1 hr1 hb1 hg hat
  refine h v1 w1 ⟨h2 w1 _ hr1 (fun k hk hno => hg.block k hk (fun e => hno (hr.1 k e.symm))) hb1⟩
/-- make([]T, n). -/
theorem ev_make (HL : Aside0 (Live w W rs)) (d : Kd α) (e : Nat) (x0 : α) (n : Nat) (N : Tmp) (t : TypeId) (x y : Operand) (z : Value) (bytes : Nat) (hgd : o.guard = none) (hd : o.dst = some N) (ho : o.op = .makeSlice t x y)
    (hx : a.eval x = .int .i64 (n : Int)) (hy : a.eval y = .int .i64 (n : Int)) (ht : P.underlying t = some (.slice e)) (hinfo : (P.info? e).map (fun i => (i.zero, i.size, i.bytes)) = some (some z, d.sz, bytes)) (hz : z.cells.size = d.sz) (hs0 : 0 < d.sz) (hb0 : 0 < bytes)
    (hp : d.M W W.heap.size (fun _ => False) x0 z.cells.toList) (hl : n * bytes ≤ 281474976710656)
    (h : ∀ v1 w1, Aside0 (Live w w1 (rs ++ [Row w.heap.size d e v1 (List.replicate n x0)])) → wpList P ops Q rest (a.put o.dst v1) w1) : wpList P ops Q (o :: rest) a W := by
  refine Kd.R_make d (w0 := W) W.heap.size e hgd hd t x y ho (n : Int) hx hy ht z bytes hinfo hz hs0 hb0 x0 (ok := fun _ => True) (okp := fun _ => False) hp (fun _ _ => trivial) trivial (by omega) (by simpa using hl) (Below.refl _ _) (Nat.le_refl _) ?_
  intro v1 w1 hr hb _ _
  exact h v1 w1 ⟨HL.out.add_row (by simpa using hr) hb⟩
theorem ev_makeS (HL : Aside0 (Live w W rs)) (d : Kd α) (e : Nat) (x0 : α) (n : Nat) (N : Tmp) (t : TypeId) (x y : Operand) (z : Value) (bytes : Nat) (hgd : o.guard = none) (hd : o.dst = some N) (ho : o.op = .makeSlice t x y)
    (hx : a.eval x = .int .i64 (n : Int)) (hy : a.eval y = .int .i64 (n : Int)) (ht : P.underlying t = some (.slice e)) (hinfo : (P.info? e).map (fun i => (i.zero, i.size, i.bytes)) = some (some z, d.sz, bytes)) (hz : z.cells.size = d.sz) (hs0 : 0 < d.sz) (hb0 : 0 < bytes)
    (hp : d.M W W.heap.size (fun _ => False) x0 z.cells.toList) (hl : n * bytes ≤ 281474976710656)
    (h : ∀ v1 w1, Aside0 (Live w w1 (rs ++ [RowS w.heap.size d e v1 (List.replicate n x0)])) → wpList P ops Q rest (a.put o.dst v1) w1) : wpList P ops Q (o :: rest) a W := by
  refine Kd.S_make d (w0 := W) W.heap.size e hgd hd t x y ho (n : Int) hx hy ht z bytes hinfo hz hs0 hb0 x0 (ok := fun _ => True) (okp := fun _ => False) hp (fun _ _ => trivial) trivial (by omega) (by simpa using hl) (Below.refl _ _) (Nat.le_refl _) ?_
  intro v1 w1 hr hb _ _
  exact h v1 w1 ⟨HL.out.add hb _ (Kd.S_lower (Kd.S_mono (Kd.S_bound (by simpa using hr)) (fun k hk => hk.2.1)) HL.out.size)⟩
/-- []T{x}, kept as a queue. -/
theorem ev_lit (HL : Aside0 (Live w W rs)) (d : Kd α) (e : Nat) (x0 : α) (cs : List Value) (N : Tmp) (hgd : o.guard = none) (hd : o.dst = some N)
    (hrun : (execOp a.eval o).run P W = .ok (.value (.slice (some ⟨W.heap.size, 0, none⟩) 1 1)) (W.alloc (.cells cs.toArray e))) (hp : d.M W W.heap.size (fun _ => False) x0 cs)
    (h : ∀ A1 c1 w1, Aside0 (Live w w1 (rs ++ [RowQ w.heap.size d e (.slice A1 1 c1) [x0]])) → wpList P ops Q rest (a.put o.dst (.slice A1 1 c1)) w1) : wpList P ops Q (o :: rest) a W := by
  refine Kd.R_lit d (w0 := W) W.heap.size e hgd hd (xs := [x0]) (inner := cs) (ok := fun _ => True) (okp := fun _ => False) hrun ?_ (fun _ _ => trivial) trivial (Below.refl _ _) (Nat.le_refl _) (by simp) ?_
  · refine ⟨by simp [d.K_len (d.K_of_M hp)], ?_⟩
    intro j p hj
    cases j with
    | zero =>
      obtain rfl := Option.some.inj hj
      simpa [List.take_of_length_le (Nat.le_of_eq (d.K_len (d.K_of_M hp)))] using hp
    | succ j => simp at hj
  · intro v1 w1 hr hb _ _
    obtain ⟨A1, c1, rfl, _⟩ := Kd.R_reads hr
    exact h A1 c1 w1 ⟨HL.out.add hb _ (Kd.Q_lower (Kd.Q_mono (Kd.Q_bound (Kd.Q_of_R hr)) (fun k hk => hk.2.1)) HL.out.size)⟩
end
end Go.Proofs.Ytidomjhihfoabaa.Lv
