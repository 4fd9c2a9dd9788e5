import Derived.Test.YtidomjhihfoabaaLem3
import Derived.Test.YtidomjhihfoabaaHRefMax
/- Steps of the residual network; breadth-first search: both programs do the same search. Plain. -/
namespace Go.Proofs.Ytidomjhihfoabaa.PF
open Go.RowKit Go.Proofs.YtidomjhihfoabaaW.PrintWords
set_option linter.unusedVariables false
set_option linter.unusedSimpArgs false

abbrev Stp := Nat × Bool
def arc (l : List S36) (i : Nat) : S36 := l.getD i z36
def fromV (l : List S36) (x : Stp) : Nat := if x.2 = true then (arc l x.1).f1.toNat else (arc l x.1).f0.toNat
def toV (l : List S36) (x : Stp) : Nat := if x.2 = true then (arc l x.1).f0.toNat else (arc l x.1).f1.toNat
def room (l : List S36) (al : List Int) (x : Stp) : Int := if x.2 = true then al.getD x.1 0 else (arc l x.1).f2 - al.getD x.1 0
theorem arc_ok {n : Nat} {l : List S36} (h : okArcs (n : Int) l) {i : Nat} (hi : i < l.length) : okArc (n : Int) (arc l i) := h _ (by simp [arc, List.getD, hi])
theorem toV_lt {n : Nat} {l : List S36} (h : okArcs (n : Int) l) {x : Stp} (hi : x.1 < l.length) : toV l x < n := by
  have := arc_ok h hi
  unfold okArc at this
  unfold toV
  split <;> omega
theorem fromV_lt {n : Nat} {l : List S36} (h : okArcs (n : Int) l) {x : Stp} (hi : x.1 < l.length) : fromV l x < n := by
  have := arc_ok h hi
  unfold okArc at this
  unfold fromV
  split <;> omega

/-! ### the search, plain -/
structure ASt where
  D : List Nat
  par : Nat → Stp
noncomputable def aStep (l : List S36) (al : List Int) (st : ASt) (x : Stp) : ASt :=
  if 0 < room l al x ∧ ¬ toV l x ∈ st.D then ⟨st.D ++ [toV l x], fun v => if v = toV l x then x else st.par v⟩ else st
structure AInv (n : Nat) (l : List S36) (al : List Int) (s : Nat) (st : ASt) : Prop where
  nodup : st.D.Nodup
  lt : ∀ v, v ∈ st.D → v < n
  head : st.D[0]? = some s
  par : ∀ idx v, st.D[idx]? = some v → v ≠ s → (st.par v).1 < l.length ∧ toV l (st.par v) = v ∧ 0 < room l al (st.par v) ∧ ∃ j : Nat, j < idx ∧ st.D[j]? = some (fromV l (st.par v))
theorem AInv.first {n : Nat} {l : List S36} {al : List Int} {s : Nat} (hs : s < n) (p : Nat → Stp) : AInv n l al s ⟨[s], p⟩ := by
  refine ⟨by simp, fun v hv => by simp at hv; omega, by simp, fun idx v h hne => ?_⟩
  cases idx with
  | zero => simp at h; exact absurd h.symm hne
  | succ j => simp at h
theorem aStep_inv {n : Nat} {l : List S36} {al : List Int} {s : Nat} {st : ASt} (hok : okArcs (n : Int) l) (h : AInv n l al s st) {x : Stp} (hx : x.1 < l.length) (hf : fromV l x ∈ st.D) : AInv n l al s (aStep l al st x) := by
  unfold aStep
  split
  · rename_i hc
    obtain ⟨h1, h2⟩ := hc
    have hs : s ∈ st.D := List.mem_of_getElem? h.head
    have hlen : 0 < st.D.length := (List.getElem?_eq_some_iff.1 h.head).1
    refine ⟨?_, ?_, ?_, ?_⟩
    · rw [List.nodup_append]
      refine ⟨h.nodup, by simp, fun a ha b hb e => ?_⟩
      simp at hb
      subst hb; subst e
      exact h2 ha
    · intro v hv
      simp at hv
      rcases hv with hv | rfl
      · exact h.lt v hv
      · exact toV_lt hok hx
    · rw [List.getElem?_append_left hlen]; exact h.head
    · intro idx v hv hne
      rcases Nat.lt_or_ge idx st.D.length with hl | hl
      · rw [List.getElem?_append_left hl] at hv
        have hvD : v ∈ st.D := List.mem_of_getElem? hv
        have hne2 : v ≠ toV l x := fun e => h2 (e ▸ hvD)
        obtain ⟨p1, p2, p3, j, hj, p4⟩ := h.par idx v hv hne
        simp only [if_neg hne2]
        exact ⟨p1, p2, p3, j, hj, by rw [List.getElem?_append_left (by omega)]; exact p4⟩
      · rw [List.getElem?_append_right hl] at hv
        have e : idx - st.D.length = 0 := by
          have := (List.getElem?_eq_some_iff.1 hv).1
          simpa using this
        rw [e] at hv
        simp at hv
        subst hv
        simp only [if_pos]
        obtain ⟨j, hj⟩ := List.getElem?_of_mem hf
        have hjl := (List.getElem?_eq_some_iff.1 hj).1
        exact ⟨hx, trivial, h1, j, by omega, by rw [List.getElem?_append_left hjl]; exact hj⟩
  · exact h
theorem aStep_pre (l : List S36) (al : List Int) (st : ASt) (x : Stp) : ∃ E, (aStep l al st x).D = st.D ++ E := by
  unfold aStep
  split
  · exact ⟨_, rfl⟩
  · exact ⟨[], by simp⟩
theorem aStep_in (l : List S36) (al : List Int) (st : ASt) (x : Stp) (h : 0 < room l al x) : toV l x ∈ (aStep l al st x).D := by
  unfold aStep
  split
  · simp
  · rename_i hc
    by_cases c : toV l x ∈ st.D
    · exact c
    · exact absurd ⟨h, c⟩ hc
noncomputable def aInner (l : List S36) (al : List Int) (xs : List Stp) (st : ASt) : ASt := xs.foldl (aStep l al) st
theorem aInner_inv {n : Nat} {l : List S36} {al : List Int} {s : Nat} (hok : okArcs (n : Int) l) (v : Nat) : ∀ (xs : List Stp) (st : ASt), AInv n l al s st → v ∈ st.D → (∀ x ∈ xs, x.1 < l.length ∧ fromV l x = v) →
    AInv n l al s (aInner l al xs st) ∧ (∃ E, (aInner l al xs st).D = st.D ++ E) ∧ ∀ x ∈ xs, 0 < room l al x → toV l x ∈ (aInner l al xs st).D := by
  intro xs
  induction xs with
  | nil => intro st h _ _; exact ⟨h, ⟨[], by simp [aInner]⟩, by simp⟩
  | cons x xs ih =>
    intro st h hv hx
    obtain ⟨h1, h2⟩ := hx x (by simp)
    have hi := aStep_inv hok h h1 (by rw [h2]; exact hv)
    obtain ⟨E, hE⟩ := aStep_pre l al st x
    obtain ⟨q1, ⟨E2, q2⟩, q3⟩ := ih (aStep l al st x) hi (by rw [hE]; simp [hv]) (fun y hy => hx y (by simp [hy]))
    have e : aInner l al (x :: xs) st = aInner l al xs (aStep l al st x) := rfl
    rw [e]
    refine ⟨q1, ⟨E ++ E2, by rw [q2, hE, List.append_assoc]⟩, fun y hy hr => ?_⟩
    rcases List.mem_cons.1 hy with rfl | hy
    · rw [q2]; exact List.mem_append_left _ (aStep_in l al st _ hr)
    · exact q3 y hy hr

/-! ### rows of steps -/
def adjTo (l : List S36) (i : Nat) (v : Nat) : List Stp := (List.range i).flatMap fun j => (if (arc l j).f0 = (v : Int) then [(j, false)] else []) ++ (if (arc l j).f1 = (v : Int) then [(j, true)] else [])
theorem adjTo_succ (l : List S36) (i v : Nat) : adjTo l (i + 1) v = adjTo l i v ++ ((if (arc l i).f0 = (v : Int) then [(i, false)] else []) ++ (if (arc l i).f1 = (v : Int) then [(i, true)] else [])) := by
  unfold adjTo
  rw [List.range_succ, List.flatMap_append]
  simp
theorem adjTo_mem {n : Nat} {l : List S36} (hok : okArcs (n : Int) l) (v : Nat) (x : Stp) : ∀ i, i ≤ l.length → (x ∈ adjTo l i v ↔ x.1 < i ∧ fromV l x = v) := by
  intro i
  induction i with
  | zero => intro _; simp [adjTo]
  | succ i ih =>
    intro hi
    rw [adjTo_succ, List.mem_append, ih (by omega)]
    have ho := arc_ok hok (show i < l.length by omega)
    unfold okArc at ho
    obtain ⟨j, b⟩ := x
    constructor
    · rintro (h | h)
      · exact ⟨by omega, h.2⟩
      · rw [List.mem_append] at h
        rcases h with h | h
        · split at h
          · simp at h; obtain ⟨rfl, rfl⟩ := h
            refine ⟨by simp, ?_⟩
            simp [fromV]; omega
          · simp at h
        · split at h
          · simp at h; obtain ⟨rfl, rfl⟩ := h
            refine ⟨by simp, ?_⟩
            simp [fromV]; omega
          · simp at h
    · rintro ⟨h1, h2⟩
      simp only at h1
      by_cases c : j < i
      · exact .inl ⟨c, h2⟩
      · right
        obtain rfl : j = i := by omega
        rw [List.mem_append]
        cases b with
        | false =>
          left
          have e : (arc l j).f0 = (v : Int) := by simp [fromV] at h2; omega
          rw [if_pos e]; simp
        | true =>
          right
          have e : (arc l j).f1 = (v : Int) := by simp [fromV] at h2; omega
          rw [if_pos e]; simp
theorem adjTo_len (l : List S36) (v i : Nat) : (adjTo l i v).length ≤ 2 * i := by
  induction i with
  | zero => simp [adjTo]
  | succ i ih =>
    rw [adjTo_succ, List.length_append, List.length_append]
    split <;> split <;> simp <;> omega
def pAt {α : Type} (enc : Stp → α) : Nat → List S36 → List (List α) → Option (List (List α))
  | _, [], at_ => some at_
  | i, a :: xs, at_ => (gPut at_ a.f0 (enc (i, false))).bind fun at1 => (gPut at1 a.f1 (enc (i, true))).bind (pAt enc (i + 1) xs)
theorem gPut_ok {α : Type} {rows : List (List α)} {n v : Nat} (x : α) (hn : rows.length = n) (hv : v < n) (hl : (rows.getD v []).length < 1099511627776) :
    ∃ rows', gPut rows (v : Int) x = some rows' ∧ rows'.length = n ∧ ∀ u, u < n → rows'.getD u [] = rows.getD u [] ++ (if v = u then [x] else []) := by
  unfold gPut
  rw [if_pos ⟨by omega, by omega, by simpa using hl⟩]
  refine ⟨_, rfl, by simpa using hn, fun u hu => ?_⟩
  simp only [Int.toNat_natCast, List.getD_eq_getElem?_getD, List.getElem?_set]
  by_cases c : v = u
  · subst c; simp [hn, hv]
  · simp [c]
theorem pAt_ok {α : Type} (enc : Stp → α) {n : Nat} {l : List S36} (hok : okArcs (n : Int) l) (hl : l.length ≤ 1024) (d : Nat) : ∀ (i : Nat) (rows : List (List α)), i + d = l.length → rows.length = n → (∀ v, v < n → rows.getD v [] = (adjTo l i v).map enc) →
    ∃ rows', pAt enc i (l.drop i) rows = some rows' ∧ rows'.length = n ∧ ∀ v, v < n → rows'.getD v [] = (adjTo l l.length v).map enc := by
  induction d with
  | zero =>
    intro i rows hi hn hr
    obtain rfl : i = l.length := by omega
    exact ⟨rows, by simp [pAt], hn, hr⟩
  | succ d ih =>
    intro i rows hi hn hr
    have hil : i < l.length := by omega
    rw [getD_drop z36 l i hil]
    have ho := arc_ok hok hil
    unfold okArc at ho
    change ∃ rows', pAt enc i (arc l i :: l.drop (i + 1)) rows = some rows' ∧ _
    obtain ⟨f, hf⟩ : ∃ f : Nat, (arc l i).f0 = (f : Int) := ⟨(arc l i).f0.toNat, by omega⟩
    obtain ⟨g, hg⟩ : ∃ g : Nat, (arc l i).f1 = (g : Int) := ⟨(arc l i).f1.toNat, by omega⟩
    have hb : ∀ v, (adjTo l i v).length < 2000000 := fun v => by have := adjTo_len l v i; omega
    obtain ⟨r1, e1, n1, h1⟩ := gPut_ok (n := n) (v := f) (enc (i, false)) hn (by omega) (by rw [hr f (by omega), List.length_map]; have := hb f; omega)
    obtain ⟨r2, e2, n2, h2⟩ := gPut_ok (n := n) (v := g) (enc (i, true)) n1 (by omega) (by
      rw [h1 g (by omega), hr g (by omega), List.length_append, List.length_map]
      have := hb g
      split <;> simp <;> omega)
    obtain ⟨r3, e3, n3, h3⟩ := ih (i + 1) r2 (by omega) n2 (fun v hv => by
      rw [h2 v hv, h1 v hv, hr v hv, adjTo_succ, hf, hg, List.map_append, List.append_assoc]
      congr 1
      rw [List.map_append]
      congr 1
      · by_cases c : f = v
        · simp [c]
        · rw [if_neg c, if_neg (by omega)]; rfl
      · by_cases c : g = v
        · simp [c]
        · rw [if_neg c, if_neg (by omega)]; rfl)
    refine ⟨r3, ?_, n3, h3⟩
    simp only [pAt, hf, hg, e1, e2, Option.bind_some]
    exact e3
def encS (x : Stp) : S86 := ⟨(x.1 : Int), x.2⟩
def encI (x : Stp) : Int := if x.2 = true then wrap64 (wrap64 (2 * (x.1 : Int)) + 1) else wrap64 (2 * (x.1 : Int))
theorem gAt_pAt : ∀ (xs : List S36) (i : Nat) (rows : List (List S86)), gAt i xs rows = pAt encS i xs rows
  | [], _, _ => rfl
  | a :: xs, i, rows => by
    simp only [gAt, pAt, show encS (i, false) = ⟨(i : Int), false⟩ from rfl, show encS (i, true) = ⟨(i : Int), true⟩ from rfl, show gAt (i + 1) xs = pAt encS (i + 1) xs from funext (gAt_pAt xs (i + 1))]
theorem encI_f (i : Nat) : encI (i, false) = wrap64 (2 * (i : Int)) := by unfold encI; rw [if_neg (show ¬ (false = true) by decide)]
theorem encI_t (i : Nat) : encI (i, true) = wrap64 (wrap64 (2 * (i : Int)) + 1) := by unfold encI; rw [if_pos rfl]
theorem rAt_pAt (xs : List S36) : ∀ (i : Nat), rAt i xs = pAt encI i xs := by
  induction xs with
  | nil => intro i; funext rows; rw [rAt.eq_1, pAt.eq_1]
  | cons a xs ih => intro i; funext rows; rw [rAt.eq_2, pAt.eq_2, encI_f, encI_t, ih (i + 1)]
theorem encI_val {x : Stp} (h : x.1 ≤ 1024) : encI x = 2 * (x.1 : Int) + (if x.2 = true then 1 else 0) := by
  unfold encI
  rw [wr0 (x := 2 * (x.1 : Int)) (by omega) (by omega)]
  split
  · rw [wr0 (by omega) (by omega)]
  · omega
theorem encI_half {x : Stp} (h : x.1 ≤ 1024) : rHalf (encI x) = (x.1 : Int) := by
  unfold rHalf
  rw [encI_val h]
  have e : Int.tdiv (2 * (x.1 : Int) + (if x.2 = true then 1 else 0)) 2 = (x.1 : Int) := by
    rw [Int.tdiv_eq_ediv_of_nonneg (by split <;> omega)]; split <;> omega
  rw [e, wr0 (by omega) (by omega)]
theorem encI_mod {x : Stp} (h : x.1 ≤ 1024) : Int.tmod (encI x) 2 = if x.2 = true then 1 else 0 := by
  rw [encI_val h, Int.tmod_eq_emod_of_nonneg (by split <;> omega)]
  split <;> omega
end Go.Proofs.Ytidomjhihfoabaa.PF
/- Both programs' searches do the plain search. -/
namespace Go.Proofs.Ytidomjhihfoabaa.PF
open Go.RowKit Go.Proofs.YtidomjhihfoabaaW.PrintWords
set_option linter.unusedVariables false
set_option linter.unusedSimpArgs false

/-- a network with a flow's numbers -/
structure Net (n : Nat) (l : List S36) (al : List Int) : Prop where
  hn : n ≤ 256
  hl : l.length ≤ 1024
  ok : okArcs (n : Int) l
  len : al.length = l.length
  al : okAl l al
theorem Net.room_bd {n : Nat} {l : List S36} {al : List Int} (h : Net n l al) {x : Stp} (hx : x.1 < l.length) : 0 ≤ room l al x ∧ room l al x ≤ 1099511627776 := by
  have h1 := h.al x.1 hx
  have h2 := arc_ok h.ok hx
  unfold okArc at h2
  unfold room
  change 0 ≤ al.getD x.1 0 ∧ al.getD x.1 0 ≤ (arc l x.1).f2 at h1
  split <;> omega
theorem toV_int {n : Nat} {l : List S36} (h : okArcs (n : Int) l) {x : Stp} (hi : x.1 < l.length) : ((toV l x : Nat) : Int) = if x.2 = true then (arc l x.1).f0 else (arc l x.1).f1 := by
  have := arc_ok h hi
  unfold okArc at this
  unfold toV
  split <;> omega
theorem fromV_int {n : Nat} {l : List S36} (h : okArcs (n : Int) l) {x : Stp} (hi : x.1 < l.length) : ((fromV l x : Nat) : Int) = if x.2 = true then (arc l x.1).f1 else (arc l x.1).f0 := by
  have := arc_ok h hi
  unfold okArc at this
  unfold fromV
  split <;> omega
theorem srRoom_eq {n : Nat} {l : List S36} {al : List Int} (h : Net n l al) {x : Stp} (hx : x.1 < l.length) : srRoom l al (encS x) = room l al x := by
  have h1 := h.room_bd hx
  unfold srRoom encS room
  simp only [rd_nat, rd36_nat]
  unfold room at h1
  split
  · rfl
  · rename_i c
    rw [if_neg c] at h1
    exact wr0 (by unfold arc at h1; omega) (by unfold arc at h1; omega)
theorem srTo_eq {n : Nat} {l : List S36} (h : okArcs (n : Int) l) {x : Stp} (hx : x.1 < l.length) : srTo l (encS x) = ((toV l x : Nat) : Int) := by
  rw [toV_int h hx]
  unfold srTo encS
  simp only [rd36_nat]
  rfl

/-! ### flow.search -/
structure SRel (n s : Nat) (st : ASt) (seen : List Bool) (how : List S86) : Prop where
  l1 : seen.length = n
  l2 : how.length = n
  yes : ∀ v, v < n → (seen.getD v false = true ↔ v ∈ st.D)
  how : ∀ v, v ∈ st.D → v ≠ s → how.getD v z86 = encS (st.par v)
theorem nodup_len : ∀ {n : Nat} {D : List Nat}, D.Nodup → (∀ v, v ∈ D → v < n) → D.length ≤ n := by
  intro n
  induction n with
  | zero =>
    intro D _ hlt
    cases D with
    | nil => simp
    | cons a D => exact absurd (hlt a (by simp)) (by omega)
  | succ n ih =>
    intro D h hlt
    have h1 : (D.erase n).length ≤ n := ih (h.erase n) (fun v hv => by
      have := (h.mem_erase_iff).1 hv
      have := hlt v this.2
      omega)
    have h2 := List.length_erase (a := n) (l := D)
    split at h2 <;> omega
theorem srStep_sim {n s : Nat} {l : List S36} {al : List Int} (h : Net n l al) {st : ASt} (hi : AInv n l al s st) {x : Stp} (hx : x.1 < l.length) (hf : fromV l x ∈ st.D) {seen : List Bool} {how : List S86} (hr : SRel n s st seen how) {k : Nat} (hk : k ≤ st.D.length) :
    ∃ seen' how', srStep l al ⟨seen, how, (st.D.drop k).map Int.ofNat⟩ (encS x) = some ⟨seen', how', ((aStep l al st x).D.drop k).map Int.ofNat⟩ ∧ SRel n s (aStep l al st x) seen' how' := by
  have hto := toV_lt h.ok hx
  have hlenD := nodup_len hi.nodup hi.lt
  have hn := h.hn
  unfold srStep
  simp only [srRoom_eq h hx, srTo_eq h.ok hx]
  rw [if_pos ⟨by simp [encS], by simp only [encS]; omega, by have := h.len; simp only [encS]; omega, by omega, by have := hr.l1; omega, by have := hr.l2; omega, by simp only [List.length_map, List.length_drop]; omega⟩]
  have e : rdOf false seen ((toV l x : Nat) : Int) = seen.getD (toV l x) false := rdOf_nat _ _ _
  rw [e]
  unfold aStep
  by_cases c1 : 0 < room l al x
  · rw [if_pos c1]
    by_cases c2 : toV l x ∈ st.D
    · rw [if_pos ((hr.yes _ hto).2 c2), if_neg (fun q => q.2 c2)]
      exact ⟨_, _, rfl, hr⟩
    · rw [if_neg (fun q => c2 ((hr.yes _ hto).1 q)), if_pos ⟨c1, c2⟩]
      refine ⟨seen.set (toV l x) true, how.set (toV l x) (encS x), ?_, ?_⟩
      · rw [List.drop_append_of_le_length hk, List.map_append]; rfl
      · refine ⟨by simpa using hr.l1, by simpa using hr.l2, fun v hv => ?_, fun v hv hne => ?_⟩
        · simp only [Int.toNat_natCast, List.getD_eq_getElem?_getD, List.getElem?_set, List.mem_append, List.mem_singleton]
          have := hr.yes v hv
          rw [List.getD_eq_getElem?_getD] at this
          by_cases q : toV l x = v
          · subst q; simp [hr.l1, hv]
          · rw [if_neg q, this]
            constructor
            · exact fun p => .inl p
            · rintro (p | p)
              · exact p
              · exact absurd p.symm q
        · simp only [Int.toNat_natCast, List.getD_eq_getElem?_getD, List.getElem?_set]
          by_cases q : toV l x = v
          · subst q; simp [hr.l2, hto]
          · have hv2 : v ∈ st.D := by
              rcases List.mem_append.1 hv with p | p
              · exact p
              · exact absurd (List.mem_singleton.1 p).symm q
            have := hr.how v hv2 hne
            rw [List.getD_eq_getElem?_getD] at this
            rw [if_neg q, if_neg (fun p => q p.symm), this]
  · rw [if_neg c1, if_neg (fun q => c1 q.1)]
    exact ⟨_, _, rfl, hr⟩
theorem srInner_sim {n s : Nat} {l : List S36} {al : List Int} (h : Net n l al) (v : Nat) (k : Nat) : ∀ (xs : List Stp) (st : ASt) (seen : List Bool) (how : List S86), AInv n l al s st → v ∈ st.D → k ≤ st.D.length → (∀ x ∈ xs, x.1 < l.length ∧ fromV l x = v) → SRel n s st seen how →
    ∃ seen' how', srInner l al (xs.map encS) ⟨seen, how, (st.D.drop k).map Int.ofNat⟩ = some ⟨seen', how', ((aInner l al xs st).D.drop k).map Int.ofNat⟩ ∧ SRel n s (aInner l al xs st) seen' how' := by
  intro xs
  induction xs with
  | nil => intro st seen how _ _ _ _ hr; exact ⟨_, _, rfl, hr⟩
  | cons x xs ih =>
    intro st seen how hi hv hk hx hr
    obtain ⟨h1, h2⟩ := hx x (by simp)
    obtain ⟨s1, w1, e1, r1⟩ := srStep_sim h hi h1 (by rw [h2]; exact hv) hr hk
    obtain ⟨E, hE⟩ := aStep_pre l al st x
    obtain ⟨s2, w2, e2, r2⟩ := ih (aStep l al st x) s1 w1 (aStep_inv h.ok hi h1 (by rw [h2]; exact hv)) (by rw [hE]; simp [hv]) (by rw [hE, List.length_append]; omega) (fun y hy => hx y (by simp [hy])) r1
    refine ⟨s2, w2, ?_, r2⟩
    simp only [List.map_cons, srInner, e1, Option.bind_some]
    exact e2
/-- what a search has found when it ends -/
structure Found (n s : Nat) (l : List S36) (al : List Int) (st : ASt) : Prop where
  inv : AInv n l al s st
  closed : ∀ x : Stp, x.1 < l.length → fromV l x ∈ st.D → 0 < room l al x → toV l x ∈ st.D
theorem srLoop_sim {n s : Nat} {l : List S36} {al : List Int} (h : Net n l al) {at_ : List (List S86)} (hat : at_.length = n) (hrows : ∀ v, v < n → at_.getD v [] = (adjTo l l.length v).map encS) : ∀ (f k : Nat) (st : ASt) (seen : List Bool) (how : List S86), n < f + k → AInv n l al s st → k ≤ st.D.length →
    (∀ j u, j < k → st.D[j]? = some u → ∀ x : Stp, x.1 < l.length → fromV l x = u → 0 < room l al x → toV l x ∈ st.D) → SRel n s st seen how →
    ∃ seen' how' st', srLoop l al at_ f ⟨seen, how, (st.D.drop k).map Int.ofNat⟩ = some (seen', how') ∧ Found n s l al st' ∧ SRel n s st' seen' how' := by
  intro f
  induction f with
  | zero =>
    intro k st seen how hf hi hk
    have := nodup_len hi.nodup hi.lt
    omega
  | succ f ih =>
    intro k st seen how hf hi hk hcl hr
    rcases Nat.lt_or_ge k st.D.length with hlt | hge
    · have hd : st.D.drop k = st.D[k] :: st.D.drop (k + 1) := List.drop_eq_getElem_cons hlt
      have hvD : st.D[k] ∈ st.D := List.getElem_mem hlt
      have hvn := hi.lt _ hvD
      generalize hv : st.D[k] = v at hd hvD hvn
      rw [hd, List.map_cons]
      simp only [srLoop]
      rw [if_pos ⟨by simp, by simp only [Int.ofNat_eq_natCast]; omega⟩]
      have e0 : (Int.ofNat v).toNat = v := rfl
      rw [e0, hrows v hvn]
      have hx : ∀ x ∈ adjTo l l.length v, x.1 < l.length ∧ fromV l x = v := fun x hx => (adjTo_mem h.ok v x l.length (Nat.le_refl _)).1 hx
      obtain ⟨s1, w1, e1, r1⟩ := srInner_sim (s := s) h v (k + 1) (adjTo l l.length v) st seen how hi hvD (by omega) hx hr
      obtain ⟨q1, ⟨E, q2⟩, q3⟩ := aInner_inv h.ok v (adjTo l l.length v) st hi hvD hx
      rw [e1]
      simp only [Option.bind_some]
      refine ih (k + 1) _ s1 w1 (by omega) q1 (by rw [q2, List.length_append]; omega) ?_ r1
      intro j u hj hu x hx1 hx2 hx3
      by_cases c : j = k
      · subst c
        rw [q2, List.getElem?_append_left hlt, List.getElem?_eq_getElem hlt, hv] at hu
        obtain rfl := Option.some.inj hu
        exact q3 x ((adjTo_mem h.ok _ x l.length (Nat.le_refl _)).2 ⟨hx1, hx2⟩) hx3
      · rw [q2, List.getElem?_append_left (by omega)] at hu
        rw [q2]
        exact List.mem_append_left _ (hcl j u (by omega) hu x hx1 hx2 hx3)
    · rw [List.drop_of_length_le hge]
      refine ⟨seen, how, st, by simp [srLoop], ⟨hi, fun x hx1 hx2 hx3 => ?_⟩, hr⟩
      obtain ⟨j, hj⟩ := List.getElem?_of_mem hx2
      have := (List.getElem?_eq_some_iff.1 hj).1
      exact hcl j _ (by omega) hj x hx1 rfl hx3
theorem search_ok {n s : Nat} {l : List S36} {al : List Int} (h : Net n l al) (hs : s < n) {at_ : List (List S86)} (hat : at_.length = n) (hrows : ∀ v, v < n → at_.getD v [] = (adjTo l l.length v).map encS) {k : Nat} (hk : n < k) :
    ∃ seen how st, flow_search.f k (n : Int) l al at_ (s : Int) = some (seen, how) ∧ Found n s l al st ∧ SRel n s st seen how := by
  have hn := h.hn
  unfold flow_search.f
  rw [if_pos ⟨by omega, by omega, by omega⟩]
  have e1 : ((n : Int)).toNat = n := rfl
  have e2 : ((s : Int)).toNat = s := rfl
  rw [e1, e2]
  refine srLoop_sim h hat hrows k 0 ⟨[s], fun _ => (0, false)⟩ _ _ (by omega) (AInv.first hs _) (by simp) (fun j u hj => by omega) ⟨by simp, by simp, fun v hv => ?_, fun v hv hne => ?_⟩
  · simp only [List.getD_eq_getElem?_getD, List.getElem?_set, List.mem_singleton]
    by_cases q : s = v
    · subst q; simp [hs]
    · rw [if_neg q]; simp [List.getElem?_replicate, hv]; exact fun p => q p.symm
  · simp at hv; exact absurd hv hne
end Go.Proofs.Ytidomjhihfoabaa.PF
/- Paths of the residual network, and what is gained along one. Plain. -/
namespace Go.Proofs.Ytidomjhihfoabaa.PF
open Go.RowKit Go.Proofs.YtidomjhihfoabaaW.PrintWords
set_option linter.unusedVariables false
set_option linter.unusedSimpArgs false

/-! ### changing the flow on one arc -/
theorem flowAt_add (v : Int) (a : S36) (x d : Int) : flowAt v a (x + d) = flowAt v a x + flowAt v a d := by
  unfold flowAt
  split <;> split <;> omega
theorem netTo_set (u : Int) (l : List S36) (al : List Int) (i : Nat) (z : Int) (hi : i < al.length) : ∀ k, netTo u l (al.set i z) k = netTo u l al k + (if i < k then flowAt u (arc l i) (z - al.getD i 0) else 0) := by
  intro k
  induction k with
  | zero => simp [netTo]
  | succ k ih =>
    simp only [netTo, ih]
    by_cases c : i = k
    · subst c
      have e : (al.set i z).getD i 0 = al.getD i 0 + (z - al.getD i 0) := by simp [List.getD, hi]; omega
      rw [if_neg (show ¬ i < i by omega), if_pos (show i < i + 1 by omega), e, flowAt_add]
      change _ = netTo u l al i + flowAt u (l.getD i z36) (al.getD i 0) + flowAt u (l.getD i z36) (z - al.getD i 0)
      omega
    · have e : (al.set i z).getD k 0 = al.getD k 0 := by simp [List.getD, List.getElem?_set, c]
      rw [e]
      by_cases q : i < k
      · rw [if_pos q, if_pos (by omega)]; omega
      · rw [if_neg q, if_neg (by omega)]; omega
/-- what a step brings out of u -/
def dlt (l : List S36) (u : Nat) (x : Stp) : Int := (if fromV l x = u then 1 else 0) - (if toV l x = u then 1 else 0)
def amtSet (al : List Int) (m : Int) (x : Stp) : Int := if x.2 = true then al.getD x.1 0 - m else al.getD x.1 0 + m
theorem step_net {n : Nat} {l : List S36} {al : List Int} (h : Net n l al) {x : Stp} (hx : x.1 < l.length) {m : Int} (hm0 : 0 < m) (hm : m ≤ room l al x) :
    Net n l (al.set x.1 (amtSet al m x)) ∧ (∀ y : Stp, y.1 ≠ x.1 → room l (al.set x.1 (amtSet al m x)) y = room l al y) ∧ ∀ u : Nat, netAt (u : Int) l (al.set x.1 (amtSet al m x)) = netAt (u : Int) l al + m * dlt l u x := by
  have ho := arc_ok h.ok hx
  have hal := h.al x.1 hx
  change 0 ≤ al.getD x.1 0 ∧ al.getD x.1 0 ≤ (arc l x.1).f2 at hal
  have hlen := h.len
  refine ⟨⟨h.hn, h.hl, h.ok, by simpa using h.len, fun j hj => ?_⟩, fun y hy => ?_, fun u => ?_⟩
  · by_cases c : x.1 = j
    · subst c
      have e : (al.set x.1 (amtSet al m x)).getD x.1 0 = amtSet al m x := by simp [List.getD, hlen, hx]
      rw [e]
      change 0 ≤ amtSet al m x ∧ amtSet al m x ≤ (arc l x.1).f2
      unfold amtSet
      unfold room at hm
      split at hm
      · rename_i q; rw [if_pos q]; omega
      · rename_i q; rw [if_neg q]; omega
    · have e : (al.set x.1 (amtSet al m x)).getD j 0 = al.getD j 0 := by simp [List.getD, List.getElem?_set, c]
      rw [e]; exact h.al j hj
  · unfold room
    have e : (al.set x.1 (amtSet al m x)).getD y.1 0 = al.getD y.1 0 := by simp [List.getD, List.getElem?_set, Ne.symm hy]
    rw [e]
  · unfold netAt
    rw [netTo_set _ _ _ _ _ (by omega), if_pos hx]
    congr 1
    obtain ⟨i, b⟩ := x
    have e0 : ((arc l i).f0 = (u : Int)) ↔ (arc l i).f0.toNat = u := by unfold okArc at ho; simp only at ho; omega
    have e1 : ((arc l i).f1 = (u : Int)) ↔ (arc l i).f1.toNat = u := by unfold okArc at ho; simp only at ho; omega
    unfold dlt flowAt amtSet fromV toV
    cases b with
    | true =>
      simp only [if_pos]
      by_cases c0 : (arc l i).f0 = (u : Int) <;> by_cases c1 : (arc l i).f1 = (u : Int)
      · rw [if_pos c0, if_pos c1, if_pos (e1.1 c1), if_pos (e0.1 c0)]; omega
      · rw [if_pos c0, if_neg c1, if_neg (fun q => c1 (e1.2 q)), if_pos (e0.1 c0)]; omega
      · rw [if_neg c0, if_pos c1, if_pos (e1.1 c1), if_neg (fun q => c0 (e0.2 q))]; omega
      · rw [if_neg c0, if_neg c1, if_neg (fun q => c1 (e1.2 q)), if_neg (fun q => c0 (e0.2 q))]; omega
    | false =>
      simp only [Bool.false_eq_true, if_false]
      by_cases c0 : (arc l i).f0 = (u : Int) <;> by_cases c1 : (arc l i).f1 = (u : Int)
      · rw [if_pos c0, if_pos c1, if_pos (e0.1 c0), if_pos (e1.1 c1)]; omega
      · rw [if_pos c0, if_neg c1, if_pos (e0.1 c0), if_neg (fun q => c1 (e1.2 q))]; omega
      · rw [if_neg c0, if_pos c1, if_neg (fun q => c0 (e0.2 q)), if_pos (e1.1 c1)]; omega
      · rw [if_neg c0, if_neg c1, if_neg (fun q => c0 (e0.2 q)), if_neg (fun q => c1 (e1.2 q))]; omega
def gain (l : List S36) (u : Nat) : List Stp → Int
  | [] => 0
  | x :: P => dlt l u x + gain l u P
theorem apply_ok {n : Nat} {l : List S36} {m : Int} (hm0 : 0 < m) : ∀ (P : List Stp) (al : List Int), Net n l al → P.Pairwise (fun x y => x.1 ≠ y.1) → (∀ x ∈ P, x.1 < l.length ∧ m ≤ room l al x) →
    ∃ al', gApply m (P.map encS) al = some al' ∧ xApp m (P.map encI) al = some al' ∧ Net n l al' ∧ ∀ u : Nat, netAt (u : Int) l al' = netAt (u : Int) l al + m * gain l u P := by
  intro P
  induction P with
  | nil => intro al h _ _; exact ⟨al, rfl, rfl, h, fun u => by simp [gain]⟩
  | cons x P ih =>
    intro al h hp hx
    obtain ⟨h1, h2⟩ := hx x (by simp)
    obtain ⟨q1, q2, q3⟩ := step_net h h1 hm0 h2
    obtain ⟨p1, p2⟩ := List.pairwise_cons.1 hp
    obtain ⟨al', e1, e2, h3, h4⟩ := ih (al.set x.1 (amtSet al m x)) q1 p2 (fun y hy => by
      have := hx y (by simp [hy])
      exact ⟨this.1, by rw [q2 y (fun e => p1 y hy e.symm)]; exact this.2⟩)
    have hb := h.room_bd h1
    have hal := h.al x.1 h1
    change 0 ≤ al.getD x.1 0 ∧ al.getD x.1 0 ≤ (arc l x.1).f2 at hal
    have ho := arc_ok h.ok h1
    unfold okArc at ho
    have hlen := h.len
    have hl := h.hl
    have hx24 : x.1 ≤ 1024 := by omega
    have w1 : wrap64 (al.getD x.1 0 - m) = al.getD x.1 0 - m := wr0 (by omega) (by omega)
    have w2 : wrap64 (al.getD x.1 0 + m) = al.getD x.1 0 + m := wr0 (by omega) (by omega)
    refine ⟨al', ?_, ?_, h3, fun u => ?_⟩
    · simp only [List.map_cons, gApply]
      rw [if_pos ⟨by simp [encS], by simp only [encS]; omega⟩]
      simp only [encS, rd_nat, w1, w2, Int.toNat_natCast]
      exact e1
    · simp only [List.map_cons, xApp]
      rw [encI_half hx24, encI_mod hx24, if_pos ⟨by omega, by omega⟩]
      simp only [rd_nat, w1, w2, Int.toNat_natCast]
      rw [← e2]
      congr 2
      unfold amtSet
      by_cases c : x.2 = true
      · simp [c]
      · simp [c]
    · rw [h4 u, q3 u]
      simp only [gain]
      rw [Int.mul_add]; omega

/-! ### chains -/
def Chain (l : List S36) (al : List Int) (s : Nat) : Nat → List Stp → Prop
  | v, [] => v = s
  | v, x :: P => v ≠ s ∧ x.1 < l.length ∧ toV l x = v ∧ 0 < room l al x ∧ Chain l al s (fromV l x) P
theorem chain_gain {l : List S36} {al : List Int} {s : Nat} (u : Nat) : ∀ (P : List Stp) (v : Nat), Chain l al s v P → gain l u P = (if s = u then 1 else 0) - (if v = u then 1 else 0) := by
  intro P
  induction P with
  | nil => intro v h; obtain rfl : v = s := h; simp [gain]
  | cons x P ih =>
    intro v h
    obtain ⟨_, _, h3, _, h5⟩ := h
    simp only [gain, ih _ h5, dlt, h3]
    omega
theorem chain_mem {l : List S36} {al : List Int} {s : Nat} : ∀ (P : List Stp) (v : Nat), Chain l al s v P → ∀ x ∈ P, x.1 < l.length ∧ 0 < room l al x := by
  intro P
  induction P with
  | nil => intro v _ x hx; simp at hx
  | cons y P ih =>
    intro v h x hx
    obtain ⟨_, h2, _, h4, h5⟩ := h
    rcases List.mem_cons.1 hx with rfl | hx
    · exact ⟨h2, h4⟩
    · exact ih _ h5 x hx
theorem same_arc {l : List S36} {x y : Stp} (h : x.1 = y.1) : (toV l x = toV l y ∧ fromV l x = fromV l y) ∨ (toV l x = fromV l y ∧ fromV l x = toV l y) := by
  obtain ⟨i, b⟩ := x
  obtain ⟨j, c⟩ := y
  obtain rfl : i = j := h
  cases b <;> cases c <;> simp [toV, fromV]
/-- what a chain's steps look like, and that no arc comes twice -/
structure Good (st : ASt) (l : List S36) (al : List Int) (s : Nat) (idx v : Nat) (P : List Stp) : Prop where
  chain : Chain l al s v P
  arcs : P.Pairwise (fun x y => x.1 ≠ y.1)
  ind : ∀ x ∈ P, ∃ i j : Nat, j < i ∧ i ≤ idx ∧ st.D[i]? = some (toV l x) ∧ st.D[j]? = some (fromV l x)
  len : P.length ≤ idx
theorem good_cons {n : Nat} {l : List S36} {al : List Int} {s : Nat} {st : ASt} (hi : AInv n l al s st) {idx v j : Nat} {P : List Stp} (hv : st.D[idx]? = some v) (hne : v ≠ s) (hx : (st.par v).1 < l.length) (hto : toV l (st.par v) = v) (hr : 0 < room l al (st.par v)) (hj : j < idx)
    (hf : st.D[j]? = some (fromV l (st.par v))) (g : Good st l al s j (fromV l (st.par v)) P) : Good st l al s idx v (st.par v :: P) := by
  refine ⟨⟨hne, hx, hto, hr, g.chain⟩, List.pairwise_cons.2 ⟨fun y hy e => ?_, g.arcs⟩, fun y hy => ?_, by have := g.len; simp; omega⟩
  · obtain ⟨i, j2, h1, h2, h3, h4⟩ := g.ind y hy
    have hil := (List.getElem?_eq_some_iff.1 hv).1
    rcases same_arc (l := l) e with ⟨e1, _⟩ | ⟨e1, e2⟩
    · rw [← e1, hto] at h3
      have := (List.getElem?_inj hil hi.nodup).1 (hv.trans h3.symm)
      omega
    · rw [← e1, hto] at h4
      have := (List.getElem?_inj hil hi.nodup).1 (hv.trans h4.symm)
      omega
  · rcases List.mem_cons.1 hy with rfl | hy
    · exact ⟨idx, j, hj, Nat.le_refl _, by rw [hto]; exact hv, hf⟩
    · obtain ⟨i, j2, h1, h2, h3, h4⟩ := g.ind y hy
      exact ⟨i, j2, h1, by omega, h3, h4⟩
end Go.Proofs.Ytidomjhihfoabaa.PF
/- flow.greatest finds a flow that no path makes greater. Plain. -/
namespace Go.Proofs.Ytidomjhihfoabaa.PF
open Go.RowKit Go.Proofs.YtidomjhihfoabaaW.PrintWords
set_option linter.unusedVariables false
set_option linter.unusedSimpArgs false

theorem rd86_nat (l : List S86) (i : Nat) : rd_T86 l (i : Int) = l.getD i z86 := by simp [rd_T86]
def gAmt (l : List S36) (al : List Int) (m : Int) (x : Stp) : Int := if m < 0 ∨ room l al x < m then room l al x else m
theorem gAmt_fold (l : List S36) (al : List Int) : ∀ (P : List Stp) (m : Int), (m < 0 ∨ 0 < m) → (∀ x ∈ P, 0 < room l al x) →
    (0 < m → 0 < P.foldl (gAmt l al) m ∧ P.foldl (gAmt l al) m ≤ m) ∧ (P ≠ [] → 0 < P.foldl (gAmt l al) m) ∧ ∀ x ∈ P, P.foldl (gAmt l al) m ≤ room l al x := by
  intro P
  induction P with
  | nil => intro m _ _; exact ⟨fun h => ⟨h, Int.le_refl _⟩, fun h => absurd rfl h, by simp⟩
  | cons x P ih =>
    intro m hm hx
    have h0 := hx x (by simp)
    have e : (x :: P).foldl (gAmt l al) m = P.foldl (gAmt l al) (gAmt l al m x) := rfl
    rw [e]
    have h1 : 0 < gAmt l al m x ∧ gAmt l al m x ≤ room l al x ∧ (0 < m → gAmt l al m x ≤ m) := by
      unfold gAmt
      split <;> refine ⟨?_, ?_, ?_⟩ <;> omega
    obtain ⟨q1, _, q3⟩ := ih (gAmt l al m x) (.inr h1.1) (fun y hy => hx y (by simp [hy]))
    obtain ⟨q4, q5⟩ := q1 h1.1
    refine ⟨fun h => ⟨q4, ?_⟩, fun _ => q4, fun y hy => ?_⟩
    · have := h1.2.2 h; omega
    · rcases List.mem_cons.1 hy with rfl | hy
      · omega
      · exact q3 y hy
theorem gPath_ok {n s : Nat} {l : List S36} {al : List Int} (h : Net n l al) {st : ASt} (hi : AInv n l al s st) {seen : List Bool} {how : List S86} (hr : SRel n s st seen how) (idx : Nat) : ∀ v, st.D[idx]? = some v →
    ∃ P, Good st l al s idx v P ∧ ∀ (f : Nat) (amt : Int) (p : List S86), idx < f → p.length + idx ≤ 1000 → gPath l al how (s : Int) f (v : Int) amt p = some (P.foldl (gAmt l al) amt, p ++ P.map encS) := by
  induction idx using Nat.strongRecOn with
  | ind idx ih =>
    intro v hv
    by_cases c : v = s
    · subst c
      refine ⟨[], ⟨rfl, by simp, by simp, by simp⟩, fun f amt p hf hp => ?_⟩
      obtain ⟨f, rfl⟩ : ∃ g, f = g + 1 := ⟨f - 1, by omega⟩
      simp [gPath]
    · obtain ⟨h1, h2, h3, j, hj, hfj⟩ := hi.par idx v hv c
      obtain ⟨P, g, hP⟩ := ih j hj _ hfj
      refine ⟨st.par v :: P, good_cons hi hv c h1 h2 h3 hj hfj g, fun f amt p hf hp => ?_⟩
      obtain ⟨f, rfl⟩ : ∃ g, f = g + 1 := ⟨f - 1, by omega⟩
      have hvD : v ∈ st.D := List.mem_of_getElem? hv
      have hvn := hi.lt v hvD
      have e1 : rd_T86 how (v : Int) = encS (st.par v) := by rw [rd86_nat]; exact hr.how v hvD c
      have hlen := h.len
      simp only [gPath, e1]
      rw [if_neg (by omega), if_pos ⟨by omega, by have := hr.l2; omega, by simp [encS], by simp only [encS]; omega, by simp only [encS]; omega, by omega⟩, srRoom_eq h h1]
      have e2 : (if (encS (st.par v)).f1 = true then (rd_T36 l (encS (st.par v)).f0).f1 else (rd_T36 l (encS (st.par v)).f0).f0) = ((fromV l (st.par v) : Nat) : Int) := by
        rw [fromV_int h.ok h1]
        simp only [encS, rd36_nat]
        rfl
      rw [e2, hP f _ _ (by omega) (by simp; omega)]
      simp only [List.foldl_cons, List.map_cons, List.append_assoc, List.cons_append, List.nil_append]
      rfl
/-- a flow that no path makes greater, and the vertices that can still be reached -/
structure Best (n : Nat) (l : List S36) (s t : Nat) (al : List Int) (sd : List Bool) : Prop where
  flow : isFlow n l (s : Int) (t : Int) al
  st : ∃ st, Found n s l al st ∧ t ∉ st.D ∧ sd.length = n ∧ ∀ v, v < n → (sd.getD v false = true ↔ v ∈ st.D)
theorem isFlow_net {n : Nat} {l : List S36} {s t : Int} {al : List Int} (h : chk (n : Int) l = 0) (hf : isFlow n l s t al) : Net n l al := by
  obtain ⟨h1, h2, h3, h4⟩ := chk_ok h
  exact ⟨by omega, h3, h4, hf.1, hf.2.1⟩
theorem augment {n : Nat} {l : List S36} {s t : Nat} {al : List Int} (h : chk (n : Int) l = 0) (hst : s ≠ t) (hf : isFlow n l (s : Int) (t : Int) al) {P : List Stp} (hc : Chain l al s t P) (ha : P.Pairwise (fun x y => x.1 ≠ y.1)) {m : Int} (hm0 : 0 < m) (hm : ∀ x ∈ P, m ≤ room l al x) :
    ∃ al', gApply m (P.map encS) al = some al' ∧ xApp m (P.map encI) al = some al' ∧ isFlow n l (s : Int) (t : Int) al' ∧ netAt (s : Int) l al' = netAt (s : Int) l al + m := by
  have hN := isFlow_net h hf
  obtain ⟨al', e1, e2, h3, h4⟩ := apply_ok hm0 P al hN ha (fun x hx => ⟨(chain_mem P t hc x hx).1, hm x hx⟩)
  refine ⟨al', e1, e2, ⟨h3.len, h3.al, fun u hu hus hut => ?_⟩, ?_⟩
  · rw [h4 u, chain_gain u P t hc, if_neg (by omega), if_neg (by omega), hf.2.2 u hu hus hut]; simp
  · rw [h4 s, chain_gain s P t hc, if_pos rfl, if_neg (Ne.symm hst)]; simp
theorem gMain_step {n : Nat} {l : List S36} {s t : Nat} (he : endsOf (n : Int) l (s : Int) (t : Int) = 0) {at_ : List (List S86)} (hat : at_.length = n) (hrows : ∀ v, v < n → at_.getD v [] = (adjTo l l.length v).map encS) (al : List Int) (k : Nat)
    (hf : isFlow n l (s : Int) (t : Int) al) (hk : n + 2 < k)
    (ih : ∀ al', isFlow n l (s : Int) (t : Int) al' → netAt (s : Int) l al < netAt (s : Int) l al' → ∃ al2 sd, gMain (n : Int) l at_ (s : Int) (t : Int) (k - 1) al' (netAt (s : Int) l al') = some (netAt (s : Int) l al2, al2, sd) ∧ Best n l s t al2 sd) :
    ∃ al' sd, gMain (n : Int) l at_ (s : Int) (t : Int) k al (netAt (s : Int) l al) = some (netAt (s : Int) l al', al', sd) ∧ Best n l s t al' sd := by
  obtain ⟨hc, hs0, hs1, ht0, ht1, hst⟩ := endsOf_ok he
  have hst' : s ≠ t := by omega
  have hN := isFlow_net hc hf
  obtain ⟨k, rfl⟩ : ∃ g, k = g + 1 := ⟨k - 1, by omega⟩
  simp only [Nat.add_sub_cancel] at ih
  obtain ⟨seen, how, st, e1, hfd, hr⟩ := search_ok hN (show s < n by omega) hat hrows (show n < k by omega)
  have ht : t < n := by omega
  simp only [gMain, e1, Option.bind_some]
  rw [if_pos ⟨by omega, by have := hr.l1; omega⟩, rdOf_nat]
  by_cases c : t ∈ st.D
  · rw [if_pos ((hr.yes t ht).2 c)]
    obtain ⟨idx, hidx⟩ := List.getElem?_of_mem c
    have hil := (List.getElem?_eq_some_iff.1 hidx).1
    have hDn := nodup_len hfd.inv.nodup hfd.inv.lt
    have hn := hN.hn
    obtain ⟨P, g, hP⟩ := gPath_ok hN hfd.inv hr idx t hidx
    rw [hP k (-1) [] (by omega) (by simp; omega)]
    simp only [Option.bind_some, List.nil_append]
    have hmem := chain_mem P t g.chain
    have hne : P ≠ [] := by
      rintro rfl
      exact hst' (g.chain : t = s).symm
    obtain ⟨_, q2, q3⟩ := gAmt_fold l al P (-1) (.inl (by omega)) (fun x hx => (hmem x hx).2)
    obtain ⟨al', a1, _, a3, a4⟩ := augment hc hst' hf g.chain g.arcs (q2 hne) q3
    rw [a1]
    simp only [Option.bind_some]
    have hb := netAt_bound hc a3 (s : Int)
    rw [← a4, wr0 (by omega) (by omega)]
    exact ih al' a3 (by have := q2 hne; omega)
  · rw [if_neg (fun q => c ((hr.yes t ht).1 q))]
    exact ⟨al, seen, rfl, hf, st, hfd, c, hr.l1, hr.yes⟩
theorem zero_flow {n : Nat} {l : List S36} (h : okArcs (n : Int) l) (s t : Int) : isFlow n l s t (List.replicate l.length 0) ∧ ∀ u, netAt u l (List.replicate l.length 0) = 0 := by
  have hz : ∀ j, (List.replicate l.length (0 : Int)).getD j 0 = 0 := fun j => by
    rw [List.getD_eq_getElem?_getD, List.getElem?_replicate]; split <;> rfl
  have hnet : ∀ (u : Int) k, netTo u l (List.replicate l.length 0) k = 0 := fun u k => by
    induction k with
    | zero => rfl
    | succ k ih => simp only [netTo, ih, hz, flowAt]; split <;> split <;> rfl
  refine ⟨⟨by simp, fun j hj => ?_, fun u _ _ _ => hnet _ _⟩, fun u => hnet _ _⟩
  have := arc_ok h hj
  unfold okArc arc at this
  rw [hz]; omega
theorem rows_zero {α : Type} (n : Nat) (l : List S36) (enc : Stp → α) : ∀ v, v < n → (List.replicate n ([] : List α)).getD v [] = (adjTo l 0 v).map enc := by
  intro v hv
  rw [List.getD_eq_getElem?_getD, List.getElem?_replicate, if_pos hv]; rfl
theorem gMain_ok {n : Nat} {l : List S36} {s t : Nat} (he : endsOf (n : Int) l (s : Int) (t : Int) = 0) {at_ : List (List S86)} (hat : at_.length = n) (hrows : ∀ v, v < n → at_.getD v [] = (adjTo l l.length v).map encS) : ∀ (N : Nat) (al : List Int) (k : Nat),
    isFlow n l (s : Int) (t : Int) al → 1125899906842624 - netAt (s : Int) l al ≤ (N : Int) → N + n + 3 ≤ k →
    ∃ al' sd, gMain (n : Int) l at_ (s : Int) (t : Int) k al (netAt (s : Int) l al) = some (netAt (s : Int) l al', al', sd) ∧ Best n l s t al' sd := by
  obtain ⟨hc, hs0, hs1, ht0, ht1, hst⟩ := endsOf_ok he
  have hst' : s ≠ t := by omega
  intro N
  induction N with
  | zero => 
    intro al k hf hN hk
    exact gMain_step he hat hrows al k hf (by omega) (fun al' hf' hlt => by have := (netAt_bound hc hf' (s : Int)).2; omega)
  | succ N ih =>
    intro al k hf hN hk
    exact gMain_step he hat hrows al k hf (by omega) (fun al' hf' hlt => ih al' (k - 1) hf' (by omega) (by omega))
theorem greatest_ok {n : Nat} {l : List S36} {s t : Nat} (he : endsOf (n : Int) l (s : Int) (t : Int) = 0) : ∃ al sd, Ev (fun k => flow_greatest.f k (n : Int) l (s : Int) (t : Int)) (netAt (s : Int) l al, al, sd) ∧ Best n l s t al sd := by
  obtain ⟨hc, hs0, hs1, ht0, ht1, hst⟩ := endsOf_ok he
  obtain ⟨h1, h2, h3, h4⟩ := chk_ok hc
  obtain ⟨z1, z2⟩ := zero_flow h4 (s : Int) (t : Int)
  obtain ⟨rows, r1, r2, r3⟩ := pAt_ok encS h4 h3 l.length 0 (List.replicate n []) (by omega) (by simp) (rows_zero n l encS)
  rw [List.drop_zero, ← gAt_pAt] at r1
  obtain ⟨al, sd, e, hb⟩ := gMain_ok he r2 r3 1125899906842624 _ (1125899906842624 + n + 3) z1 (by rw [z2]; decide) (Nat.le_refl _)
  rw [z2] at e
  refine ⟨al, sd, ⟨1125899906842624 + n + 3, fun k hk => ?_⟩, hb⟩
  have hm : ∀ d, gMain (n : Int) l rows (s : Int) (t : Int) (1125899906842624 + n + 3 + d) (List.replicate l.length 0) 0 = some (netAt (s : Int) l al, al, sd) := by
    intro d
    induction d with
    | zero => exact e
    | succ d ih => exact gMain_mono _ _ _ _ _ _ _ _ _ ih
  show flow_greatest.f k (n : Int) l (s : Int) (t : Int) = _
  unfold flow_greatest.f
  rw [if_pos ⟨by omega, by omega, by omega⟩]
  have e1 : ((n : Int)).toNat = n := rfl
  rw [e1, r1]
  simp only [Option.bind_some]
  have := hm (k - (1125899906842624 + n + 3))
  rwa [show 1125899906842624 + n + 3 + (k - (1125899906842624 + n + 3)) = k by omega] at this
end Go.Proofs.Ytidomjhihfoabaa.PF
/- The reference's search and its maximum flow. Plain. -/
namespace Go.Proofs.Ytidomjhihfoabaa.PF
open Go.RowKit Go.Proofs.YtidomjhihfoabaaW.PrintWords
set_option linter.unusedVariables false
set_option linter.unusedSimpArgs false

structure RRel (n s : Nat) (st : ASt) (step : List Int) : Prop where
  len : step.length = n
  no : ∀ v, v < n → ¬ v ∈ st.D → step.getD v 0 = -2
  yes : ∀ v, v ∈ st.D → v ≠ s → step.getD v 0 = encI (st.par v)
  start : step.getD s 0 = -1
theorem RRel.not2 {n s : Nat} {l : List S36} {al : List Int} {st : ASt} {step : List Int} (hl : l.length ≤ 1024) (hi : AInv n l al s st) (h : RRel n s st step) {v : Nat} (hv : v ∈ st.D) : step.getD v 0 ≠ -2 := by
  by_cases c : v = s
  · subst c; rw [h.start]; decide
  · rw [h.yes v hv c]
    obtain ⟨i, hi2⟩ := List.getElem?_of_mem hv
    have := (hi.par i v hi2 c).1
    rw [encI_val (by omega)]
    split <;> omega
theorem rTo_eq {n : Nat} {l : List S36} (hl : l.length ≤ 1024) (h : okArcs (n : Int) l) {x : Stp} (hx : x.1 < l.length) : rTo l (encI x) = ((toV l x : Nat) : Int) := by
  rw [toV_int h hx]
  unfold rTo
  rw [encI_half (by omega), encI_mod (by omega), rd36_nat]
  by_cases c : x.2 = true
  · rw [if_pos c, if_pos c, if_pos rfl]; rfl
  · rw [if_neg c, if_neg c, if_neg (by decide)]; rfl
theorem rOpen_eq {l : List S36} (hl : l.length ≤ 1024) (al : List Int) {x : Stp} (hx : x.1 < l.length) : rOpen l al (encI x) = decide (0 < room l al x) := by
  unfold rOpen room
  rw [encI_half (by omega), encI_mod (by omega), rd36_nat, rd_nat]
  by_cases c : x.2 = true
  · rw [if_pos c, if_pos c, if_pos rfl]
  · rw [if_neg c, if_neg c, if_neg (by decide)]
    apply decide_eq_decide.2
    unfold arc
    omega
theorem rStep_sim {n s : Nat} {l : List S36} {al : List Int} (h : Net n l al) {st : ASt} (hi : AInv n l al s st) {x : Stp} (hx : x.1 < l.length) (hf : fromV l x ∈ st.D) {step : List Int} (hr : RRel n s st step) :
    ∃ step', rStep l al ⟨step, st.D.map Int.ofNat⟩ (encI x) = some ⟨step', (aStep l al st x).D.map Int.ofNat⟩ ∧ RRel n s (aStep l al st x) step' := by
  have hto := toV_lt h.ok hx
  have hlenD := nodup_len hi.nodup hi.lt
  have hn := h.hn
  have hl := h.hl
  have hlen := h.len
  have hsD : s ∈ st.D := List.mem_of_getElem? hi.head
  unfold rStep
  simp only [rTo_eq hl h.ok hx, rOpen_eq hl al hx, encI_half (show x.1 ≤ 1024 by omega)]
  rw [if_pos ⟨by omega, by omega, by omega, by omega, by have := hr.len; omega, by simp only [List.length_map]; omega⟩, rd_nat]
  unfold aStep
  by_cases c1 : 0 < room l al x
  · by_cases c2 : toV l x ∈ st.D
    · rw [if_neg (fun q => hr.not2 hl hi c2 q.2), if_neg (fun q => q.2 c2)]
      exact ⟨_, rfl, hr⟩
    · rw [if_pos ⟨by simpa using c1, hr.no _ hto c2⟩, if_pos ⟨c1, c2⟩]
      refine ⟨step.set (toV l x) (encI x), by rw [List.map_append]; rfl, by simpa using hr.len, fun v hv hvD => ?_, fun v hv hne => ?_, ?_⟩
      · have q : ¬ toV l x = v := fun e => hvD (by simp [e])
        have q2 : ¬ v ∈ st.D := fun e => hvD (by simp [e])
        have := hr.no v hv q2
        rw [List.getD_eq_getElem?_getD] at this ⊢
        rw [List.getElem?_set, if_neg q, this]
      · by_cases q : toV l x = v
        · subst q
          rw [List.getD_eq_getElem?_getD, List.getElem?_set]
          simp [hr.len, hto]
        · have hv2 : v ∈ st.D := by
            rcases List.mem_append.1 hv with p | p
            · exact p
            · exact absurd (List.mem_singleton.1 p).symm q
          have := hr.yes v hv2 hne
          rw [List.getD_eq_getElem?_getD] at this ⊢
          rw [List.getElem?_set, if_neg q, this]
          show encI (st.par v) = encI (if v = toV l x then x else st.par v)
          rw [if_neg (fun p => q p.symm)]
      · have q : ¬ toV l x = s := fun e => c2 (e ▸ hsD)
        have := hr.start
        rw [List.getD_eq_getElem?_getD] at this ⊢
        rw [List.getElem?_set, if_neg q, this]
  · rw [if_neg (fun q => c1 (by simpa using q.1)), if_neg (fun q => c1 q.1)]
    exact ⟨_, rfl, hr⟩
theorem rInner_sim {n s : Nat} {l : List S36} {al : List Int} (h : Net n l al) (v : Nat) : ∀ (xs : List Stp) (st : ASt) (step : List Int), AInv n l al s st → v ∈ st.D → (∀ x ∈ xs, x.1 < l.length ∧ fromV l x = v) → RRel n s st step →
    ∃ step', rInner l al (xs.map encI) ⟨step, st.D.map Int.ofNat⟩ = some ⟨step', (aInner l al xs st).D.map Int.ofNat⟩ ∧ RRel n s (aInner l al xs st) step' := by
  intro xs
  induction xs with
  | nil => intro st step _ _ _ hr; exact ⟨_, rfl, hr⟩
  | cons x xs ih =>
    intro st step hi hv hx hr
    obtain ⟨h1, h2⟩ := hx x (by simp)
    obtain ⟨s1, e1, r1⟩ := rStep_sim h hi h1 (by rw [h2]; exact hv) hr
    obtain ⟨E, hE⟩ := aStep_pre l al st x
    obtain ⟨s2, e2, r2⟩ := ih (aStep l al st x) s1 (aStep_inv h.ok hi h1 (by rw [h2]; exact hv)) (by rw [hE]; simp [hv]) (fun y hy => hx y (by simp [hy])) r1
    refine ⟨s2, ?_, r2⟩
    simp only [List.map_cons, rInner, e1, Option.bind_some]
    exact e2
theorem rLoop_sim {n s : Nat} {l : List S36} {al : List Int} (h : Net n l al) {at_ : List (List Int)} (hat : at_.length = n) (hrows : ∀ v, v < n → at_.getD v [] = (adjTo l l.length v).map encI) : ∀ (f k : Nat) (st : ASt) (step : List Int), n < f + k → AInv n l al s st → k ≤ st.D.length →
    (∀ j u, j < k → st.D[j]? = some u → ∀ x : Stp, x.1 < l.length → fromV l x = u → 0 < room l al x → toV l x ∈ st.D) → RRel n s st step →
    ∃ step' st', rLoop l al at_ f k ⟨step, st.D.map Int.ofNat⟩ = some step' ∧ Found n s l al st' ∧ RRel n s st' step' := by
  intro f
  induction f with
  | zero =>
    intro k st step hf hi hk
    have := nodup_len hi.nodup hi.lt
    omega
  | succ f ih =>
    intro k st step hf hi hk hcl hr
    rcases Nat.lt_or_ge k st.D.length with hlt | hge
    · have hvD : st.D[k] ∈ st.D := List.getElem_mem hlt
      have hvn := hi.lt _ hvD
      have hq : rd (st.D.map Int.ofNat) (k : Int) = ((st.D[k] : Nat) : Int) := by rw [rd_nat, List.getD_eq_getElem?_getD, List.getElem?_map, List.getElem?_eq_getElem hlt]; rfl
      generalize hv : st.D[k] = v at hvD hvn hq
      simp only [rLoop, List.length_map, hq]
      rw [if_pos hlt, if_pos ⟨by omega, by omega⟩]
      have e0 : ((v : Int)).toNat = v := rfl
      rw [e0, hrows v hvn]
      have hx : ∀ x ∈ adjTo l l.length v, x.1 < l.length ∧ fromV l x = v := fun x hx => (adjTo_mem h.ok v x l.length (Nat.le_refl _)).1 hx
      obtain ⟨s1, e1, r1⟩ := rInner_sim (s := s) h v (adjTo l l.length v) st step hi hvD hx hr
      obtain ⟨q1, ⟨E, q2⟩, q3⟩ := aInner_inv h.ok v (adjTo l l.length v) st hi hvD hx
      rw [e1]
      simp only [Option.bind_some]
      refine ih (k + 1) _ s1 (by omega) q1 (by rw [q2, List.length_append]; omega) ?_ r1
      intro j u hj hu x hx1 hx2 hx3
      by_cases c : j = k
      · subst c
        rw [q2, List.getElem?_append_left hlt, List.getElem?_eq_getElem hlt, hv] at hu
        obtain rfl := Option.some.inj hu
        exact q3 x ((adjTo_mem h.ok _ x l.length (Nat.le_refl _)).2 ⟨hx1, hx2⟩) hx3
      · rw [q2, List.getElem?_append_left (by omega)] at hu
        rw [q2]
        exact List.mem_append_left _ (hcl j u (by omega) hu x hx1 hx2 hx3)
    · refine ⟨step, st, ?_, ⟨hi, fun x hx1 hx2 hx3 => ?_⟩, hr⟩
      · simp only [rLoop, List.length_map]; rw [if_neg (by omega)]
      · obtain ⟨j, hj⟩ := List.getElem?_of_mem hx2
        have := (List.getElem?_eq_some_iff.1 hj).1
        exact hcl j _ (by omega) hj x hx1 rfl hx3
theorem reach_ok {n s : Nat} {l : List S36} {al : List Int} (h : Net n l al) (hs : s < n) {k : Nat} (hk : n < k) :
    ∃ step st, codewrightref51_Reach.f k (n : Int) l al (s : Int) = some step ∧ Found n s l al st ∧ RRel n s st step := by
  have hn := h.hn
  have hl := h.hl
  obtain ⟨rows, r1, r2, r3⟩ := pAt_ok encI h.ok h.hl l.length 0 (List.replicate n []) (by omega) (by simp) (rows_zero n l encI)
  rw [List.drop_zero, ← rAt_pAt] at r1
  unfold codewrightref51_Reach.f
  rw [if_pos ⟨by omega, by omega, by omega, by omega⟩]
  have e1 : ((n : Int)).toNat = n := rfl
  have e2 : ((s : Int)).toNat = s := rfl
  rw [e1, e2, r1]
  simp only [Option.bind_some]
  refine rLoop_sim h r2 r3 k 0 ⟨[s], fun _ => (0, false)⟩ _ (by omega) (AInv.first hs _) (by simp) (fun j u hj => by omega) ⟨by simp, fun v hv hvD => ?_, fun v hv hne => ?_, ?_⟩
  · have q : ¬ s = v := fun e => hvD (by simp [e])
    rw [List.getD_eq_getElem?_getD, List.getElem?_set, if_neg q]; simp [List.getElem?_replicate, hv]
  · simp at hv; exact absurd hv hne
  · rw [List.getD_eq_getElem?_getD, List.getElem?_set]; simp [hs]

/-! ### the reference's path and its maximum flow -/
theorem path_ok {n s : Nat} {l : List S36} {al : List Int} (h : Net n l al) {st : ASt} (hi : AInv n l al s st) {step : List Int} (hr : RRel n s st step) (nn : Int) (idx : Nat) : ∀ v, st.D[idx]? = some v →
    ∃ P, Good st l al s idx v P ∧ ∀ (f : Nat) (p : List Int), idx < f → p.length + idx ≤ 1000 → codewrightref51_path.l0 f step p (v : Int) nn l = some (p ++ P.map encI) := by
  have hl := h.hl
  induction idx using Nat.strongRecOn with
  | ind idx ih =>
    intro v hv
    have hvD : v ∈ st.D := List.mem_of_getElem? hv
    have hvn := hi.lt v hvD
    have hlen := hr.len
    by_cases c : v = s
    · subst c
      refine ⟨[], ⟨rfl, by simp, by simp, by simp⟩, fun f p hf hp => ?_⟩
      obtain ⟨f, rfl⟩ : ∃ g, f = g + 1 := ⟨f - 1, by omega⟩
      rw [codewrightref51_path.l0.eq_2, if_pos (by omega), if_pos (by omega), rd_nat, hr.start, if_neg (by decide)]
      simp
    · obtain ⟨h1, h2, h3, j, hj, hfj⟩ := hi.par idx v hv c
      obtain ⟨P, g, hP⟩ := ih j hj _ hfj
      refine ⟨st.par v :: P, good_cons hi hv c h1 h2 h3 hj hfj g, fun f p hf hp => ?_⟩
      obtain ⟨f, rfl⟩ : ∃ g, f = g + 1 := ⟨f - 1, by omega⟩
      have e1 : rd step (v : Int) = encI (st.par v) := by rw [rd_nat]; exact hr.yes v hvD c
      have e3 : wrap64 (Int.tdiv (encI (st.par v)) 2) = ((st.par v).1 : Int) := encI_half (by omega)
      have e4 := encI_mod (x := st.par v) (by omega)
      have e5 := encI_val (x := st.par v) (by omega)
      rw [codewrightref51_path.l0.eq_2, if_pos (by omega), if_pos (by omega), e1, if_pos (by rw [e5]; split <;> omega), if_pos (by omega)]
      simp only [Option.bind_some, e3, e4, rd36_nat]
      rw [if_pos (by omega), if_pos (by omega)]
      have hfr := fromV_int h.ok h1
      by_cases c2 : (st.par v).2 = true
      · rw [if_pos c2] at hfr
        rw [if_pos c2, if_neg (by decide)]
        change codewrightref51_path.l0 f step _ (arc l (st.par v).1).f1 nn l = _
        rw [← hfr, hP f _ (by omega) (by simp; omega)]
        simp
      · rw [if_neg c2] at hfr
        rw [if_neg c2, if_pos rfl]
        change codewrightref51_path.l0 f step _ (arc l (st.par v).1).f0 nn l = _
        rw [← hfr, hP f _ (by omega) (by simp; omega)]
        simp
def xMin (l : List S36) (al : List Int) (m : Int) (x : Stp) : Int := mn m (room l al x)
theorem xAmt_ok {n : Nat} {l : List S36} {al : List Int} (h : Net n l al) : ∀ (P : List Stp) (m : Int), 0 < m → (∀ x ∈ P, x.1 < l.length ∧ 0 < room l al x) → ∃ r, xAmt l al (P.map encI) m = some r ∧ 0 < r ∧ r ≤ m ∧ ∀ x ∈ P, r ≤ room l al x := by
  have hl := h.hl
  have hlen := h.len
  intro P
  induction P with
  | nil => intro m hm _; exact ⟨m, rfl, hm, Int.le_refl _, by simp⟩
  | cons x P ih =>
    intro m hm hx
    obtain ⟨h1, h2⟩ := hx x (by simp)
    have hb := h.room_bd h1
    have e : xFree l al (encI x) = room l al x := by
      unfold xFree
      rw [encI_half (by omega), encI_mod (by omega), rd_nat, rd36_nat]
      unfold room at hb ⊢
      by_cases c : x.2 = true
      · rw [if_pos c, if_pos c, if_pos rfl]
      · rw [if_neg c, if_neg c, if_neg (by decide)]
        rw [if_neg c] at hb
        exact wr0 (by unfold arc at hb; omega) (by unfold arc at hb; omega)
    have h3 : 0 < mn m (room l al x) ∧ mn m (room l al x) ≤ m ∧ mn m (room l al x) ≤ room l al x := by unfold mn; split <;> omega
    obtain ⟨r, e1, q1, q2, q3⟩ := ih (mn m (room l al x)) h3.1 (fun y hy => hx y (by simp [hy]))
    refine ⟨r, ?_, q1, by omega, fun y hy => ?_⟩
    · simp only [List.map_cons, xAmt, encI_half (show x.1 ≤ 1024 by omega), e]
      rw [if_pos ⟨by omega, by omega, by omega⟩]; exact e1
    · rcases List.mem_cons.1 hy with rfl | hy
      · omega
      · exact q3 y hy
theorem xMain_step {n : Nat} {l : List S36} {s t : Nat} (he : endsOf (n : Int) l (s : Int) (t : Int) = 0) (al : List Int) (k : Nat) (hf : isFlow n l (s : Int) (t : Int) al) (hk : n + 2 < k) {step : List Int} {st : ASt} (hfd : Found n s l al st) (hr : RRel n s st step)
    (ih : ∀ al' step' st', isFlow n l (s : Int) (t : Int) al' → netAt (s : Int) l al < netAt (s : Int) l al' → Found n s l al' st' → RRel n s st' step' → ∃ al2 sd, xMain (n : Int) l (s : Int) (t : Int) (k - 1) al' (netAt (s : Int) l al') step' = some (netAt (s : Int) l al2, al2, sd) ∧ Best n l s t al2 sd) :
    ∃ al' sd, xMain (n : Int) l (s : Int) (t : Int) k al (netAt (s : Int) l al) step = some (netAt (s : Int) l al', al', sd) ∧ Best n l s t al' sd := by
  obtain ⟨hc, hs0, hs1, ht0, ht1, hst⟩ := endsOf_ok he
  have hst' : s ≠ t := by omega
  have hN := isFlow_net hc hf
  obtain ⟨k, rfl⟩ : ∃ g, k = g + 1 := ⟨k - 1, by omega⟩
  simp only [Nat.add_sub_cancel] at ih
  have ht : t < n := by omega
  have hl := hN.hl
  simp only [xMain]
  rw [if_pos ⟨by omega, by have := hr.len; omega, by have := hr.len; omega⟩, rd_nat]
  by_cases c : t ∈ st.D
  · rw [if_neg (hr.not2 hl hfd.inv c)]
    obtain ⟨idx, hidx⟩ := List.getElem?_of_mem c
    have hil := (List.getElem?_eq_some_iff.1 hidx).1
    have hDn := nodup_len hfd.inv.nodup hfd.inv.lt
    have hn := hN.hn
    obtain ⟨P, g, hP⟩ := path_ok hN hfd.inv hr (n : Int) idx t hidx
    have hmem := chain_mem P t g.chain
    obtain ⟨m, a0, q2, _, q3⟩ := xAmt_ok hN P 1099511627776 (by decide) hmem
    obtain ⟨al', _, a2, a3, a4⟩ := augment hc hst' hf g.chain g.arcs q2 q3
    obtain ⟨step2, st2, b1, b2, b3⟩ := reach_ok (isFlow_net hc a3) (show s < n by omega) (show n < k by omega)
    unfold codewrightref51_path.f
    rw [hP k [] (by omega) (by simp; omega)]
    simp only [Option.bind_some, List.nil_append, a0, a2, b1]
    have hb := netAt_bound hc a3 (s : Int)
    rw [← a4, wr0 (by omega) (by omega)]
    exact ih al' step2 st2 a3 (by omega) b2 b3
  · rw [if_pos (hr.no t ht c)]
    refine ⟨al, _, rfl, hf, st, hfd, c, by simp [xSide], fun v hv => ?_⟩
    have e : (xSide step ((n : Int)).toNat).getD v false = (rd step (v : Int) != -2) := by
      unfold xSide
      rw [List.getD_eq_getElem?_getD, List.getElem?_map, List.getElem?_range (show v < ((n : Int)).toNat from hv)]; rfl
    rw [e, rd_nat]
    by_cases q : v ∈ st.D
    · simp only [q, iff_true, bne_iff_ne]; exact hr.not2 hl hfd.inv q
    · rw [hr.no v hv q]; simp [q]
theorem xMain_ok {n : Nat} {l : List S36} {s t : Nat} (he : endsOf (n : Int) l (s : Int) (t : Int) = 0) : ∀ (N : Nat) (al : List Int) (k : Nat) (step : List Int) (st : ASt),
    isFlow n l (s : Int) (t : Int) al → 1125899906842624 - netAt (s : Int) l al ≤ (N : Int) → N + n + 3 ≤ k → Found n s l al st → RRel n s st step →
    ∃ al' sd, xMain (n : Int) l (s : Int) (t : Int) k al (netAt (s : Int) l al) step = some (netAt (s : Int) l al', al', sd) ∧ Best n l s t al' sd := by
  obtain ⟨hc, hs0, hs1, ht0, ht1, hst⟩ := endsOf_ok he
  intro N
  induction N with
  | zero =>
    intro al k step st hf hN hk hfd hr
    exact xMain_step he al k hf (by omega) hfd hr (fun al' _ _ hf' hlt => by have := (netAt_bound hc hf' (s : Int)).2; omega)
  | succ N ih =>
    intro al k step st hf hN hk hfd hr
    exact xMain_step he al k hf (by omega) hfd hr (fun al' step' st' hf' hlt h1 h2 => ih al' (k - 1) step' st' hf' (by omega) (by omega) h1 h2)
theorem refmax_ok {n : Nat} {l : List S36} {s t : Nat} (he : endsOf (n : Int) l (s : Int) (t : Int) = 0) : ∃ al sd, Ev (fun k => codewrightref51_Max.f k (n : Int) l (s : Int) (t : Int)) (netAt (s : Int) l al, al, sd) ∧ Best n l s t al sd := by
  obtain ⟨hc, hs0, hs1, ht0, ht1, hst⟩ := endsOf_ok he
  obtain ⟨h1, h2, h3, h4⟩ := chk_ok hc
  obtain ⟨z1, z2⟩ := zero_flow h4 (s : Int) (t : Int)
  obtain ⟨step, st, b1, b2, b3⟩ := reach_ok (isFlow_net hc z1) (show s < n by omega) (show n < 1125899906842624 + n + 3 by omega)
  obtain ⟨al, sd, e, hb⟩ := xMain_ok he 1125899906842624 _ (1125899906842624 + n + 3) step st z1 (by rw [z2]; decide) (Nat.le_refl _) b2 b3
  rw [z2] at e
  refine ⟨al, sd, ⟨1125899906842624 + n + 3, fun k hk => ?_⟩, hb⟩
  have hm : ∀ d, codewrightref51_Max.f (1125899906842624 + n + 3 + d) (n : Int) l (s : Int) (t : Int) = some (netAt (s : Int) l al, al, sd) := by
    intro d
    induction d with
    | zero =>
      show codewrightref51_Max.f (1125899906842624 + n + 3) (n : Int) l (s : Int) (t : Int) = _
      unfold codewrightref51_Max.f
      rw [if_pos ⟨by omega, by omega, by omega⟩, b1]
      exact e
    | succ d ih => exact codewrightref51_Max.mono _ _ _ _ _ _ ih
  have := hm (k - (1125899906842624 + n + 3))
  rwa [show 1125899906842624 + n + 3 + (k - (1125899906842624 + n + 3)) = k by omega] at this
end Go.Proofs.Ytidomjhihfoabaa.PF
/- Two flows that no path makes greater: the same value, the same cut. Plain. -/
namespace Go.Proofs.Ytidomjhihfoabaa.PF
open Go.RowKit Go.Proofs.YtidomjhihfoabaaW.PrintWords
set_option linter.unusedVariables false
set_option linter.unusedSimpArgs false

/-- what a set that no open step leaves does -/
def Shut (l : List S36) (al : List Int) (S : Nat → Prop) : Prop := ∀ x : Stp, x.1 < l.length → S (fromV l x) → 0 < room l al x → S (toV l x)
theorem found_least {n s : Nat} {l : List S36} {al : List Int} {st : ASt} (h : Found n s l al st) {S : Nat → Prop} (hs : S s) (hS : Shut l al S) (idx : Nat) : ∀ v, st.D[idx]? = some v → S v := by
  induction idx using Nat.strongRecOn with
  | ind idx ih =>
    intro v hv
    by_cases c : v = s
    · subst c; exact hs
    · obtain ⟨h1, h2, h3, j, hj, hfj⟩ := h.inv.par idx v hv c
      have := hS _ h1 (ih j hj _ hfj) h3
      rwa [h2] at this
theorem xTo_shut {side : List Bool} {l : List S36} {al : List Int} {n : Nat} (h : Net n l al) (hS : Shut l al (fun v => side.getD v false = true)) (i : Nat) (hi : i ≤ l.length) : xTo (sideFn side) l al i = cutTo side l i := by
  induction i with
  | zero => rfl
  | succ i ih =>
    have hil : i < l.length := by omega
    have ho := arc_ok h.ok hil
    have ha := h.al i hil
    have s1 := hS (i, false) hil
    have s2 := hS (i, true) hil
    rw [xTo, cutTo, ih (by omega)]
    congr 1
    change _ ∧ al.getD i 0 ≤ (arc l i).f2 at ha
    change xAt (sideFn side) (arc l i) (al.getD i 0) = cutOf side (arc l i)
    simp only [fromV, toV, room, Bool.false_eq_true, if_false, if_true] at s1 s2
    generalize arc l i = a at *
    unfold xAt cutOf sideFn
    cases c1 : side.getD a.f0.toNat false <;> cases c2 : side.getD a.f1.toNat false <;> simp only [c1, c2, Bool.false_eq_true, if_false, if_true, and_true, and_false, true_and, false_and, reduceCtorEq, imp_false, true_implies, false_implies, forall_const] at * <;> omega
theorem shut_of_eq {side : List Bool} {l : List S36} {al : List Int} {n : Nat} (h : Net n l al) (i : Nat) (hi : i ≤ l.length) (e : xTo (sideFn side) l al i = cutTo side l i) : ∀ x : Stp, x.1 < i → side.getD (fromV l x) false = true → 0 < room l al x → side.getD (toV l x) false = true := by
  induction i with
  | zero => intro x hx; omega
  | succ i ih =>
    have hil : i < l.length := by omega
    have ho := arc_ok h.ok hil
    unfold okArc at ho
    have ha := h.al i hil
    have hle := xTo_le (side := side) h.ok h.al i (by omega)
    change _ ∧ al.getD i 0 ≤ (arc l i).f2 at ha
    rw [xTo, cutTo] at e
    change xTo (sideFn side) l al i + xAt (sideFn side) (arc l i) (al.getD i 0) = cutTo side l i + cutOf side (arc l i) at e
    have hx : xAt (sideFn side) (arc l i) (al.getD i 0) ≤ cutOf side (arc l i) := by
      generalize al.getD i 0 = y at ha ⊢
      unfold xAt cutOf sideFn
      cases c1 : side.getD (arc l i).f0.toNat false <;> cases c2 : side.getD (arc l i).f1.toNat false <;> simp <;> omega
    intro x hxi hf hr
    by_cases c : x.1 < i
    · exact ih (by omega) (by omega) x c hf hr
    · obtain ⟨j, b⟩ := x
      obtain rfl : j = i := by simp at hxi c; omega
      have e2 : xAt (sideFn side) (arc l j) (al.getD j 0) = cutOf side (arc l j) := by omega
      unfold xAt cutOf sideFn at e2
      simp only [fromV, toV, room] at hf hr ⊢
      generalize al.getD j 0 = y at ha e2 hr
      cases b with
      | true =>
        simp only [if_true] at hf hr ⊢
        cases c1 : side.getD (arc l j).f0.toNat false with
        | true => rfl
        | false => rw [c1, hf] at e2; simp at e2; omega
      | false =>
        simp only [Bool.false_eq_true, if_false] at hf hr ⊢
        cases c1 : side.getD (arc l j).f1.toNat false with
        | true => rfl
        | false => rw [c1, hf] at e2; simp at e2; omega
theorem best_shut {n : Nat} {l : List S36} {s t : Nat} {al : List Int} {sd : List Bool} (hc : chk (n : Int) l = 0) (h : Best n l s t al sd) : Shut l al (fun v => sd.getD v false = true) := by
  obtain ⟨hf, st, hfd, ht, hl, hv⟩ := h
  obtain ⟨_, _, _, h4⟩ := chk_ok hc
  intro x hx h1 h2
  exact (hv _ (toV_lt h4 hx)).2 (hfd.closed x hx ((hv _ (fromV_lt h4 hx)).1 h1) h2)
theorem best_cut {n : Nat} {l : List S36} {s t : Nat} {al : List Int} {sd : List Bool} (he : endsOf (n : Int) l (s : Int) (t : Int) = 0) (h : Best n l s t al sd) : isCut n (s : Int) (t : Int) sd := by
  obtain ⟨hc, hs0, hs1, ht0, ht1, hst⟩ := endsOf_ok he
  obtain ⟨hf, st, hfd, ht, hl, hv⟩ := h
  refine ⟨hl, (hv s (by omega)).2 (List.mem_of_getElem? hfd.inv.head), ?_⟩
  have := hv t (by omega)
  cases q : sd.getD ((t : Int)).toNat false with
  | false => rfl
  | true => exact absurd (this.1 q) ht
theorem best_val {n : Nat} {l : List S36} {s t : Nat} {al : List Int} {sd : List Bool} (he : endsOf (n : Int) l (s : Int) (t : Int) = 0) (h : Best n l s t al sd) : netAt (s : Int) l al = cut sd l := by
  obtain ⟨hc, hs0, hs1, ht0, ht1, hst⟩ := endsOf_ok he
  obtain ⟨_, _, _, h4⟩ := chk_ok hc
  have hcut := best_cut he h
  have e1 := flow_across (side := sideFn sd) h4 h.flow (show s < n by omega) (show t < n by omega) (by omega) hcut.2.1
  have e2 : sideFn sd t = false := hcut.2.2
  rw [e2, if_neg (by decide)] at e1
  have e3 := xTo_shut (isFlow_net hc h.flow) (best_shut hc h) l.length (Nat.le_refl _)
  rw [cutTo_all] at e3
  omega
theorem best_cert {n : Nat} {l : List S36} {s t : Nat} {al : List Int} {sd : List Bool} (he : endsOf (n : Int) l (s : Int) (t : Int) = 0) (h : Best n l s t al sd) : isCert n l (s : Int) (t : Int) (netAt (s : Int) l al) al sd :=
  ⟨h.flow, best_cut he h, rfl, (best_val he h).symm⟩
theorem best_same {n : Nat} {l : List S36} {s t : Nat} {al al' : List Int} {sd sd' : List Bool} (he : endsOf (n : Int) l (s : Int) (t : Int) = 0) (h : Best n l s t al sd) (h' : Best n l s t al' sd') : netAt (s : Int) l al = netAt (s : Int) l al' := by
  have a := duality he h.flow (best_cut he h')
  have b := duality he h'.flow (best_cut he h)
  rw [← best_val he h'] at a
  rw [← best_val he h] at b
  omega
theorem best_sub {n : Nat} {l : List S36} {s t : Nat} {al al' : List Int} {sd sd' : List Bool} (he : endsOf (n : Int) l (s : Int) (t : Int) = 0) (h : Best n l s t al sd) (h' : Best n l s t al' sd') (v : Nat) (hv : v < n) (hsv : sd.getD v false = true) : sd'.getD v false = true := by
  obtain ⟨hc, hs0, hs1, ht0, ht1, hst⟩ := endsOf_ok he
  obtain ⟨_, _, _, h4⟩ := chk_ok hc
  have hN := isFlow_net hc h.flow
  have hcut := best_cut he h'
  have e1 := flow_across (side := sideFn sd') h4 h.flow (show s < n by omega) (show t < n by omega) (by omega) hcut.2.1
  have e2 : sideFn sd' t = false := hcut.2.2
  rw [e2, if_neg (by decide)] at e1
  have e3 := best_val he h'
  have e4 := best_same he h h'
  have hsh := shut_of_eq (side := sd') hN l.length (Nat.le_refl _) (by rw [cutTo_all]; omega)
  obtain ⟨hf, st, hfd, ht, hl, hvv⟩ := h
  obtain ⟨idx, hidx⟩ := List.getElem?_of_mem ((hvv v hv).1 hsv)
  exact found_least hfd (S := fun v => sd'.getD v false = true) hcut.2.1 (fun x hx h1 h2 => hsh x hx h1 h2) idx v hidx
theorem best_side {n : Nat} {l : List S36} {s t : Nat} {al al' : List Int} {sd sd' : List Bool} (he : endsOf (n : Int) l (s : Int) (t : Int) = 0) (h : Best n l s t al sd) (h' : Best n l s t al' sd') : sd = sd' := by
  have l1 := (best_cut he h).1
  have l2 := (best_cut he h').1
  apply List.ext_getElem (by omega)
  intro v h1 h2
  have a := best_sub he h h' v (by omega)
  have b := best_sub he h' h v (by omega)
  simp only [List.getD_eq_getElem?_getD, List.getElem?_eq_getElem h1, List.getElem?_eq_getElem h2, Option.getD_some] at a b
  cases c1 : sd[v] <;> cases c2 : sd'[v] <;> simp_all
end Go.Proofs.Ytidomjhihfoabaa.PF
