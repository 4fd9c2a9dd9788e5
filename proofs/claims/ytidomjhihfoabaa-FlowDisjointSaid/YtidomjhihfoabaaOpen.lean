/- What reads as data at a type has cells of a value of the type's kind: whole numbers, bools, slices, structs, put together. Plain words for the rows of this seat. -/
import Derived.Test.YtidomjhihfoabaaWWords
import Derived.Deep.Slices
import Derived.ChangeArms
import Derived.SizedLaws
namespace Go.Proofs.Ytidomjhihfoabaa.Op
open Go Go.RowKit Go.ChangeShapes Go.WideShapes Go.Proofs.YtidomjhihfoabaaW.PrintWords
set_option linter.unusedVariables false

/-- Whatever reads at type t (its weights within reach) is the cells of a value of kind d, and the value is good. -/
def Opens (P : Program) (t : TypeId) {α : Type} (d : Kd α) (G : α → Prop) : Prop :=
  ∀ {H : Type} (enc : TypeId × Value → H) (w : World) (base : Nat) (spare : Nat → Bool) (held : Bool) (fuel : Nat) (cs : List Value) (x : DataW H × List MemPlace),
    DataW.trod enc P w base spare held fuel t cs = some x → (∀ n ∈ DataW.weights P t x.1, n ≤ reachBytes) → ∃ a, d.K w a cs ∧ G a

/-- The same of the fields fs of a struct, from the cell off on. -/
def OpensF (P : Program) (fs : List Field) (off : Nat) {α : Type} (d : Kd α) (G : α → Prop) : Prop :=
  ∀ {H : Type} (enc : TypeId × Value → H) (w : World) (base : Nat) (spare : Nat → Bool) (held : Bool) (fuel : Nat) (cs : List Value) (xs : List (DataW H × List MemPlace)),
    xs.length = fs.length → (∀ (i : Nat) (f : Field), fs[i]? = some f → DataW.trod enc P w base spare held fuel f.type ((cs.drop f.offset).take (P.cellsOf f.type)) = xs[i]?) →
    (∀ n ∈ DataW.weightsEach P (fs.map (·.type)) (xs.map (·.1)), n ≤ reachBytes) → cs.length = off + d.sz → ∃ a, d.K w a (cs.drop off) ∧ G a

variable {P : Program} {α β : Type}

theorem opens_int {t : TypeId} {k : IntKind} (ht : P.underlying t = some (.int k)) : Opens P t (Kd.int k) (fun n => (Lit.int k n).wf = true) := by
  intro H enc w base spare held fuel cs x h _
  cases fuel with
  | zero => simp [DataW.trod] at h
  | succ n =>
    unfold DataW.trod at h
    rw [ht] at h
    split at h <;> simp_all
    obtain ⟨⟨rfl, hw⟩, _⟩ := h
    exact ⟨_, rfl, hw⟩

theorem opens_bool {t : TypeId} (ht : P.underlying t = some .bool) : Opens P t Kd.bool (fun _ => True) := by
  intro H enc w base spare held fuel cs x h _
  obtain ⟨b, rfl, _⟩ := DataW.trod_bool ht h
  exact ⟨b, rfl, trivial⟩

theorem opens_slice {t e : TypeId} {d : Kd α} {G : α → Prop} (q : Nat) (ht : P.underlying t = some (.slice e)) (hc : P.cellsOf e = d.sz) (h : Opens P e d G) :
    Opens P t (Kd.slice q d) (fun xs => (∀ a ∈ xs, G a) ∧ xs.length * P.bytesOf e ≤ reachBytes) := by
  intro H enc w base spare held fuel cs x hx hw
  rcases Go.Deep.open_slice ht hx with ⟨rfl, rfl⟩ | ⟨a, len, cap, m, n, D, Pl, rfl, hb, hl, hm, hmm, rfl, hel⟩
  · exact ⟨[], ⟨none, 0, rfl, Nat.le_refl _, Kd.C_nil _ _⟩, by simp, by simp⟩
  · have hlm : len ≤ m := by rw [hmm]; split <;> omega
    have hw1 : (len + (m - len)) * P.bytesOf e ≤ reachBytes := by
      refine hw _ ?_
      simp [DataW.weights, ht]
    have hw2 : ∀ i, i < len → ∀ n ∈ DataW.weights P e (D i), n ≤ reachBytes := by
      intro i hi n hn
      refine hw _ ?_
      simp only [DataW.weights, ht, List.mem_cons, List.mem_append]
      refine Or.inr (Or.inl ?_)
      have key : ∀ (l : List (DataW H)) (y : DataW H), y ∈ l → ∀ n ∈ DataW.weights P e y, n ∈ DataW.weightsAll P e l := by
        intro l
        induction l with
        | nil => intro y hy; simp at hy
        | cons z l ih =>
          intro y hy n hn
          simp only [DataW.weightsAll, List.mem_append]
          rcases List.mem_cons.1 hy with rfl | hy
          · exact Or.inl hn
          · exact Or.inr (ih y hy n hn)
      exact key _ (D i) (List.mem_map.2 ⟨i, List.mem_range.2 hi, rfl⟩) n hn
    have hex : ∀ i, i < len → ∃ z : α × List Value, w.cells? base (a.add (i * P.cellsOf e)) (P.cellsOf e) = some z.2 ∧ d.K w z.1 z.2 ∧ G z.1 := by
      intro i hi
      obtain ⟨cs', h1, h2⟩ := hel i (by omega)
      obtain ⟨z, hk, hg⟩ := h enc w base spare held n cs' _ h2 (hw2 i hi)
      exact ⟨(z, cs'), h1, hk, hg⟩
    have hall : ∃ zs : List α, zs.length = len ∧ ∀ i z, zs[i]? = some z → ∃ c, w.cells? base (a.add (i * P.cellsOf e)) (P.cellsOf e) = some c ∧ d.K w z c ∧ G z := by
      clear hw hel hw1 hw2 hl hlm hmm hx
      induction len with
      | zero => exact ⟨[], rfl, by simp⟩
      | succ k ih =>
        obtain ⟨zs, hz, hf⟩ := ih (fun i hi => hex i (by omega))
        obtain ⟨z, h1, h2, h3⟩ := hex k (Nat.lt_succ_self k)
        refine ⟨zs ++ [z.1], by simp [hz], ?_⟩
        intro i y hy
        rcases Nat.lt_or_ge i zs.length with hi | hi
        · rw [List.getElem?_append_left hi] at hy
          exact hf i y hy
        · rw [List.getElem?_append_right hi] at hy
          have hik : i = k := by
            rcases Nat.lt_or_ge 0 (i - zs.length) with h0 | h0
            · obtain ⟨q, hq⟩ : ∃ q, i - zs.length = q + 1 := ⟨i - zs.length - 1, by omega⟩
              rw [hq] at hy
              cases hy
            · omega
          subst hik
          simp only [hz, Nat.sub_self, List.getElem?_cons_zero, Option.some.injEq] at hy
          subst hy
          exact ⟨z.2, h1, h2, h3⟩
    obtain ⟨zs, hz, hf⟩ := hall
    subst hz
    refine ⟨zs, ⟨some a, cap, rfl, hl, rfl, by have : maxLen = 2 ^ 63 - 1 := rfl; omega, fun _ => ⟨a, rfl, ?_⟩⟩, ?_, ?_⟩
    · intro j p hp
      obtain ⟨c, h1, h2, _⟩ := hf j p hp
      refine ⟨c, d.K_len h2, h2, ?_⟩
      intro i u hu
      have hlt : i < c.length := (List.getElem?_eq_some_iff.1 hu).1
      obtain ⟨_, hcl, hg⟩ := World.cells?_some h1
      rw [← hc, ← Go.Deep.add_add, hg i (by omega), hu]
    · intro z hzm
      obtain ⟨i, hi⟩ := List.mem_iff_getElem?.1 hzm
      obtain ⟨c, _, _, h3⟩ := hf i z hi
      exact h3
    · exact Nat.le_trans (Nat.mul_le_mul_right _ (by omega)) hw1

theorem opensF_one {f : Field} {off : Nat} {d : Kd α} {G : α → Prop} (h : Opens P f.type d G) (ho : f.offset = off) (hc : P.cellsOf f.type = d.sz) : OpensF P [f] off d G := by
  intro H enc w base spare held fuel cs xs hx hf hw hl
  match xs, hx with
  | [x], _ =>
    have h0 := hf 0 f rfl
    rw [ho, hc, List.take_of_length_le (by simp [hl])] at h0
    exact h enc w base spare held fuel _ x h0 (fun n hn => hw n (by simpa [DataW.weightsEach] using hn))

theorem opensF_cons {f : Field} {fs : List Field} {off : Nat} {a : Kd α} {b : Kd β} {Ga : α → Prop} {Gb : β → Prop} (h : Opens P f.type a Ga) (ho : f.offset = off) (hc : P.cellsOf f.type = a.sz)
    (h2 : OpensF P fs (off + a.sz) b Gb) : OpensF P (f :: fs) off (Kd.pair a b) (fun p => Ga p.1 ∧ Gb p.2) := by
  intro H enc w base spare held fuel cs xs hx hf hw hl
  match xs, hx with
  | x :: xs, hx =>
    have h0 := hf 0 f rfl
    rw [ho, hc] at h0
    have hl' : cs.length = off + (a.sz + b.sz) := hl
    obtain ⟨p, hp, gp⟩ := h enc w base spare held fuel _ x h0 (fun n hn => hw n (by simp [DataW.weightsEach]; exact Or.inl hn))
    obtain ⟨r, hr, gr⟩ := h2 enc w base spare held fuel cs xs (by simpa using hx) (fun i g hg => by have := hf (i + 1) g (by simpa using hg); simpa using this) (fun n hn => hw n (by simp [DataW.weightsEach]; exact Or.inr (by simpa using hn))) (by omega)
    refine ⟨(p, r), ⟨_, _, ?_, hp, hr⟩, gp, gr⟩
    rw [← List.drop_drop, List.take_append_drop]

theorem opens_struct {t : TypeId} {fs : Array Field} {d : Kd α} {G : α → Prop} (ht : P.underlying t = some (.struct fs)) (hc : P.cellsOf t = d.sz) (h : OpensF P fs.toList 0 d G) : Opens P t d G := by
  intro H enc w base spare held fuel cs x hx hw
  obtain ⟨xs, n, _, rfl, hl, hlen, hf⟩ := DataW.trod_struct ht hx
  have := h enc w base spare held n cs xs (by simpa using hlen) (fun i f hi => hf i f (by simpa using hi)) (fun n hn => hw n (by simpa [DataW.weights, ht] using hn)) (by omega)
  simpa using this

theorem opens_iso {t : TypeId} {d : Kd α} {G : α → Prop} (f : β → α) (g : α → β) (hfg : ∀ a, f (g a) = a) (h : Opens P t d G) : Opens P t (Kd.iso d f) (fun b => G (f b)) := by
  intro H enc w base spare held fuel cs x hx hw
  obtain ⟨a, hk, hg⟩ := h enc w base spare held fuel cs x hx hw
  exact ⟨g a, by show d.K w (f (g a)) cs; rw [hfg]; exact hk, by show G (f (g a)); rw [hfg]; exact hg⟩

theorem opens_imp {t : TypeId} {d : Kd α} {G G' : α → Prop} (h : Opens P t d G) (hg : ∀ a, G a → G' a) : Opens P t d G' := by
  intro H enc w base spare held fuel cs x hx hw
  obtain ⟨a, hk, h1⟩ := h enc w base spare held fuel cs x hx hw
  exact ⟨a, hk, hg a h1⟩

def I64 (n : Int) : Prop := -9223372036854775808 ≤ n ∧ n ≤ 9223372036854775807
theorem wf_i64 {n : Int} (h : (Lit.int .i64 n).wf = true) : I64 n := by
  have e1 : IntKind.min .i64 = -9223372036854775808 := by decide
  have e2 : IntKind.max .i64 = 9223372036854775807 := by decide
  simp only [Lit.wf, Bool.and_eq_true, decide_eq_true_eq, e1, e2] at h
  exact h
theorem opens_i64 {t : TypeId} (ht : P.underlying t = some (.int .i64)) : Opens P t (Kd.int .i64) (fun x => I64 x) := opens_imp (opens_int ht) (fun _ h => wf_i64 h)

/-- A parameter of a law: its reading and its weights. -/
theorem opens_at {t : TypeId} {d : Kd α} {G : α → Prop} (h : Opens P t d G) {H : Type} {enc : TypeId × Value → H} {w : World} {base : Nat} {spare : Nat → Bool} {held : Bool} {v : Value} {x : DataW H} {ps : List MemPlace}
    (hx : DataW.Trod enc P w base spare held t v x ps) {ts : List TypeId} {ds : List (DataW H)} (hsz : (DataW.weightsEach P ts ds).all (· ≤ reachBytes) = true) {j : Nat} (ht : ts[j]? = some t) (hd : ds[j]? = some x) :
    ∃ a, d.K w a v.cells.toList ∧ G a := by
  obtain ⟨fuel, hf⟩ := hx
  refine h enc w base spare held fuel _ _ hf ?_
  intro n hn
  have := List.all_eq_true.1 hsz _ (DataW.weights_mem_each ht hd n hn)
  simpa using this
end Go.Proofs.Ytidomjhihfoabaa.Op
