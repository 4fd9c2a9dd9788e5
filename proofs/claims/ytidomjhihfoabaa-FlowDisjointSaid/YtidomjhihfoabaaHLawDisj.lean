/- The law FlowDisjoint: what its call does where it returns true (elsewhere nothing is said). -/
import Derived.Test.YtidomjhihfoabaaHRoutes
import Derived.Test.YtidomjhihfoabaaHIsRoute
import Derived.Test.YtidomjhihfoabaaLive5
import Derived.Test.YtidomjhihfoabaaPFx27
import Derived.Test.YtidomjhihfoabaaPFx26
import Derived.Test.YtidomjhihfoabaaPFx21
import Derived.Test.YtidomjhihfoabaaPFx18
namespace Go.Proofs.Ytidomjhihfoabaa.PF
open Go Go.RowKit Go.Lib Go.Proofs.YtidomjhihfoabaaW.PrintWords Go.Proofs.YtidomjhihfoabaaW.PrintLast Go.Proofs.Ytidomjhihfoabaa.Lv
set_option linter.unusedVariables false
set_option linter.unusedSimpArgs false

def T13_5 : Bool × List (List Nat × List Nat) := (true, [([], []), ([0], [0]), ([1], [1]), ([], []), ([], []), ([4], [4]), ([5], [5]), ([3, 6], [3, 6]), ([2, 7], [2, 7]), ([], []), ([9, 8, 7, 0, 1, 2, 3, 4, 5, 6, 7, 8, 9], [8, 9])])
def B13_5 : List Nat := [0, 1, 3, 0, 0, 16, 48, 120, 255, 0, 1023]
theorem tab13_5 : rtab .any (opsOf Try.f13 5) = T13_5 := by kernel_rfl
theorem bits13_5 : waitsOk T13_5.2 B13_5 = true := by kernel_rfl
def T13_22 : Bool × List (List Nat × List Nat) := (true, [([], []), ([], []), ([1], [1]), ([], []), ([3], [3]), ([], []), ([], []), ([5, 6], [5, 6]), ([7], [7]), ([0, 2, 4, 8], [0, 2, 4, 8]), ([9], [9]), ([10], [10]), ([10], [10]), ([11, 9, 0, 1, 2, 3, 4, 5, 6, 7, 8, 9, 10, 11], [11]), ([12, 13, 0, 1, 2, 3, 4, 5, 6, 7, 8, 9, 10, 11, 12, 13], [12])])
def B13_22 : List Nat := [0, 0, 2, 0, 8, 0, 0, 96, 224, 511, 1023, 2047, 2047, 4095, 16383]
theorem tab13_22 : rtab .any (opsOf Try.f13 22) = T13_22 := by kernel_rfl
theorem bits13_22 : waitsOk T13_22.2 B13_22 = true := by kernel_rfl

/-- the first j arcs have the capacity 1 -/
def onesK (l : List S36) : Nat → List S36
  | 0 => l
  | j + 1 => (onesK l j).set j ⟨(rd_T36 (onesK l j) (j : Int)).f0, (rd_T36 (onesK l j) (j : Int)).f1, 1⟩
theorem onesK_len (l : List S36) : ∀ j, (onesK l j).length = l.length
  | 0 => rfl
  | j + 1 => by rw [onesK, List.length_set, onesK_len l j]
def dsMark : List Int → List Bool → Option (List Bool)
  | [], u => some u
  | i :: is, u => if 0 ≤ i ∧ i < (u.length : Int) ∧ rdOf false u i = false then dsMark is (u.set i.toNat true) else none
def dsAll (n : Int) (l : List S36) (s t : Int) : List S63 → List Bool → Int → Option (List Bool × Int)
  | [], u, p => some (u, p)
  | r :: rs, u, p => (isRoute n l s t r.f0 r.f1).bind fun b => if r.f1 = 1 then (dsMark r.f0 u).bind fun u2 => dsAll n l s t rs u2 (if b = true then wrap64 (p + 1) else p) else none
def dsLeave (sd : List Bool) : List S36 → Int → Option Int
  | [], c => some c
  | a :: l, c => if 0 ≤ a.f0 ∧ a.f0 < (sd.length : Int) ∧ 0 ≤ a.f1 ∧ a.f1 < (sd.length : Int) then dsLeave sd l (if rdOf false sd a.f0 = true ∧ rdOf false sd a.f1 = false then wrap64 (c + 1) else c) else none
def codewrightlaw51_FlowDisjoint.f (k : Nat) (n : Int) (l : List S36) (s t : Int) : Option Bool :=
  (codewrightlaw51_alive.f k).bind fun av => if av = true then (codewrightlaw51_few.f k n l).bind fun b => if b = true then
    (if l.length * 24 ≤ 140737488351232 then (flow_Max.f k n (onesK l l.length) s t).bind fun q => (codewrightref51_Ends.f k n (onesK l l.length) s t).bind fun x => if x = 0 then
      (flow_Routes.f k n (onesK l l.length) s t q.1 q.2.1 q.2.2.1).bind fun p => if q.2.2.2 = 0 ∧ p.2 = 0 ∧ (q.2.2.1.length : Int) = n ∧ l.length < 1099511627776 then
        (dsAll n (onesK l l.length) s t p.1 (List.replicate l.length false) 0).bind fun u => (dsLeave q.2.2.1 (onesK l l.length) 0).bind fun lv => if u.2 = lv ∧ u.2 = q.1 then some true else none
      else none
    else (if q.2.2.2 = x ∧ q.1 = 0 ∧ q.2.1 = [] ∧ q.2.2.1 = [] then some true else none) else none)
  else some true else none
theorem dsMark_len : ∀ (is : List Int) (u u2 : List Bool), dsMark is u = some u2 → u2.length = u.length
  | [], u, u2, h => by rw [← Option.some.inj h]
  | i :: is, u, u2, h => by
    rw [dsMark] at h
    split at h
    · rw [dsMark_len is _ _ h, List.length_set]
    · cases h
theorem one_M {W : World} {base : Nat} {xs : List S36} {j : Nat} (hj : j < xs.length) (c : List Value) (hc : c.length = k36.sz) (hK : k36.K W (xs.getD j ⟨(rd_T36 xs (j : Int)).f0, (rd_T36 xs (j : Int)).f1, 1⟩) c) :
    k36.M W base (fun _ => False) ⟨(rd_T36 xs (j : Int)).f0, (rd_T36 xs (j : Int)).f1, 1⟩ (c.take 2 ++ [.int .i64 1] ++ c.drop (2 + 1)) := by
  obtain rfl := k36_open hK
  have e : ∀ d : S36, xs.getD j d = rd_T36 xs (j : Int) := fun d => by simp [rd_T36, List.getD, hj]
  rw [e]
  exact k36_mkM _ _ _ _

set_option maxHeartbeats 16000000 in
set_option maxRecDepth 100000 in
theorem codewrightlaw51_FlowDisjoint.calls (k : Nat) (a0_0 : Int) (A0_1 : Option Addr) (c0_1 : Nat) (l0_1 : List S36) (a0_2 : Int) (a0_3 : Int) (r : Bool) (w : World) (hr0_1 : Kd.C k36 w A0_1 l0_1.length l0_1) (hc0_1 : l0_1.length ≤ c0_1) (h : codewrightlaw51_FlowDisjoint.f k a0_0 l0_1 a0_2 a0_3 = some r) :
    Calls Try.prog 13 #[.agg #[.int .i64 a0_0, .slice A0_1 l0_1.length c0_1, .int .i64 a0_2, .int .i64 a0_3]] w fun e w' => e = .returned (.bool r) ∧ Below w.heap.size w w' := by
  have hu48 := Try.underlying48
  have hu24 := Try.underlying24
  have hu36 := Try.underlying36
  have hu39 := Try.underlying39
  have hu63 := Try.underlying63
  have HR0 := Aside0.mk hr0_1
  clear hr0_1
  unfold codewrightlaw51_FlowDisjoint.f at h
  obtain ⟨av, hav, h1⟩ := Option.bind_eq_some_iff.1 h
  clear h
  split at h1
  · rename_i hav1
    subst hav1
    have HAl := Aside0.mk hav
    clear hav
    obtain ⟨b, hb0, h2⟩ := Option.bind_eq_some_iff.1 h1
    clear h1
    have HFew := Aside0.mk hb0
    clear hb0
    have HL := Aside0.mk (Live.nil w)
    go_enter Try.func13, Try.ntmps13
    cases b with
    | false =>
      rw [if_neg (by decide)] at h2
      obtain rfl := Option.some.inj h2
      clear h2
      go_wp2_with (first
        | ((with_reducible refine gate_dst (N := 1) rfl ?_); refine ev_new HL #[.int .i64 a0_0, .slice A0_1 l0_1.length c0_1, .int .i64 a0_2, .int .i64 a0_3] 48 rfl 1 rfl ?hr ?_; (case hr => first | (go_simp; done) | (go_simp; rfl)); intro g1 w1 G1 HL1; clear HL; have HL := HL1; clear HL1)
        | ((with_reducible refine gate_callee (f := 18) rfl ?_); refine goesL_ (some 18) rfl rfl Try.func18 (by kernel_rfl) rfl #[] rfl (by (try simp only [List.map_toArray, List.map_cons, List.map_nil]); first | done | rfl) ?_; refine (codewrightlaw51_alive.calls k true _ HAl.out).mono ?_; rintro e w2 ⟨rfl, hb⟩; refine ⟨_, rfl, ?_⟩; have HL1 := Aside0.mk (HL.out.same hb); clear HL hb; have HL := HL1; clear HL1; have b0 : w2.cell? ⟨g1, 0, none⟩ = some (.int .i64 a0_0) := (HL.out.box_cell (i := 0) rfl 0).trans rfl; have b1 : w2.cell? ⟨g1, 1, none⟩ = some (.slice A0_1 l0_1.length c0_1) := (HL.out.box_cell (i := 0) rfl 1).trans rfl; have b2 : w2.cell? ⟨g1, 2, none⟩ = some (.int .i64 a0_2) := (HL.out.box_cell (i := 0) rfl 2).trans rfl; have b3 : w2.cell? ⟨g1, 3, none⟩ = some (.int .i64 a0_3) := (HL.out.box_cell (i := 0) rfl 3).trans rfl)
        | ((with_reducible refine gate_callee (f := 26) rfl ?_); refine goesL_ (some 22) rfl rfl Try.func26 (by kernel_rfl) rfl #[.agg #[.int .i64 a0_0, .slice A0_1 l0_1.length c0_1]] rfl (by (try simp only [List.map_toArray, List.map_cons, List.map_nil]); first | done | rfl) ?_; refine (codewrightlaw51_few.calls k a0_0 A0_1 c0_1 l0_1 false _ (Kd.C_below HR0.out HL.out.hb) hc0_1 HFew.out).mono ?_; rintro e w3 ⟨rfl, hb⟩; refine ⟨_, rfl, ?_⟩; have HL1 := Aside0.mk (HL.out.same hb); clear HL hb b0 b1 b2 b3; have HL := HL1; clear HL1; have b0 : w3.cell? ⟨g1, 0, none⟩ = some (.int .i64 a0_0) := (HL.out.box_cell (i := 0) rfl 0).trans rfl; have b1 : w3.cell? ⟨g1, 1, none⟩ = some (.slice A0_1 l0_1.length c0_1) := (HL.out.box_cell (i := 0) rfl 1).trans rfl; have b2 : w3.cell? ⟨g1, 2, none⟩ = some (.int .i64 a0_2) := (HL.out.box_cell (i := 0) rfl 2).trans rfl; have b3 : w3.cell? ⟨g1, 3, none⟩ = some (.int .i64 a0_3) := (HL.out.box_cell (i := 0) rfl 3).trans rfl)
        )
      go_ret
      exact ⟨rfl, HL.out.hb⟩
    | true =>
      rw [if_pos rfl] at h2
      split at h2
      · rename_i hlen
        obtain ⟨⟨q1, q2, q3, q4⟩, hq, h3⟩ := Option.bind_eq_some_iff.1 h2
        obtain ⟨x, hx, h4⟩ := Option.bind_eq_some_iff.1 h3
        have HMax := Aside0.mk hq
        have HEnds := Aside0.mk hx
        clear h2 h3 hq hx
        simp only at h4
        have HRes := Aside0.mk h4
        clear h4
        go_upto_region 5 with (first
          | ((with_reducible refine gate_dst (N := 1) rfl ?_); refine ev_new HL #[.int .i64 a0_0, .slice A0_1 l0_1.length c0_1, .int .i64 a0_2, .int .i64 a0_3] 48 rfl 1 rfl ?hr ?_; (case hr => first | (go_simp; done) | (go_simp; rfl)); intro g1 w1 G1 HL1; clear HL; have HL := HL1; clear HL1)
          | ((with_reducible refine gate_callee (f := 18) rfl ?_); refine goesL_ (some 18) rfl rfl Try.func18 (by kernel_rfl) rfl #[] rfl (by (try simp only [List.map_toArray, List.map_cons, List.map_nil]); first | done | rfl) ?_; refine (codewrightlaw51_alive.calls k true _ HAl.out).mono ?_; rintro e w2 ⟨rfl, hb⟩; refine ⟨_, rfl, ?_⟩; have HL1 := Aside0.mk (HL.out.same hb); clear HL hb; have HL := HL1; clear HL1; have b0 : w2.cell? ⟨g1, 0, none⟩ = some (.int .i64 a0_0) := (HL.out.box_cell (i := 0) rfl 0).trans rfl; have b1 : w2.cell? ⟨g1, 1, none⟩ = some (.slice A0_1 l0_1.length c0_1) := (HL.out.box_cell (i := 0) rfl 1).trans rfl; have b2 : w2.cell? ⟨g1, 2, none⟩ = some (.int .i64 a0_2) := (HL.out.box_cell (i := 0) rfl 2).trans rfl; have b3 : w2.cell? ⟨g1, 3, none⟩ = some (.int .i64 a0_3) := (HL.out.box_cell (i := 0) rfl 3).trans rfl)
          | ((with_reducible refine gate_callee (f := 26) rfl ?_); refine goesL_ (some 22) rfl rfl Try.func26 (by kernel_rfl) rfl #[.agg #[.int .i64 a0_0, .slice A0_1 l0_1.length c0_1]] rfl (by (try simp only [List.map_toArray, List.map_cons, List.map_nil]); first | done | rfl) ?_; refine (codewrightlaw51_few.calls k a0_0 A0_1 c0_1 l0_1 true _ (Kd.C_below HR0.out HL.out.hb) hc0_1 HFew.out).mono ?_; rintro e w3 ⟨rfl, hb⟩; refine ⟨_, rfl, ?_⟩; have HL1 := Aside0.mk (HL.out.same hb); clear HL hb b0 b1 b2 b3; have HL := HL1; clear HL1; have b0 : w3.cell? ⟨g1, 0, none⟩ = some (.int .i64 a0_0) := (HL.out.box_cell (i := 0) rfl 0).trans rfl; have b1 : w3.cell? ⟨g1, 1, none⟩ = some (.slice A0_1 l0_1.length c0_1) := (HL.out.box_cell (i := 0) rfl 1).trans rfl; have b2 : w3.cell? ⟨g1, 2, none⟩ = some (.int .i64 a0_2) := (HL.out.box_cell (i := 0) rfl 2).trans rfl; have b3 : w3.cell? ⟨g1, 3, none⟩ = some (.int .i64 a0_3) := (HL.out.box_cell (i := 0) rfl 3).trans rfl)
          )
        replace HL := Aside0.mk ((HL.out.add (Below.refl _ _) Emp trivial).add (Below.refl _ _) Emp trivial)
        clear b0 b1 b2 b3
        replace HL := HL.out.drew
        refine start_ (n := 11) (S := fun w' => w'.cell? ⟨g1, 0, none⟩ = some (.int .i64 a0_0) ∧ w'.cell? ⟨g1, 1, none⟩ = some (.slice A0_1 l0_1.length c0_1)) (ds := []) #[false, false, false, false, false, false, false, false, false, false, false] (by kernel_rfl) rfl rfl ⟨(HL.box_cell (i := 0) rfl 0).trans rfl, (HL.box_cell (i := 0) rfl 1).trans rfl⟩ (fun hHeld => ?_); refine with_tabW tab13_5 bits13_5 (fun HT_ HW_ => ?_)
        generalize w3.drew = wd_ at HL hHeld ⊢
        refine pure_ (i := 0) (N := some 24) (v := ?_) (a' := ?_) #[true, false, false, false, false, false, false, false, false, false, false] rfl rfl (any_of HT_.out (by kernel_rfl)) (fun _ _ _ h => h) (Or.inl ⟨by rfl, ?_⟩) ?_ ?_; (rotate_left; · intro w'; go_simp; with_reducible rfl); (rotate_left; · simp only [Act.put, List.setIfInBounds_toArray, List.set_cons_zero, List.set_cons_succ, i64_w, i32_w]; rfl)
        refine pure_ (i := 1) (N := some 25) (v := ?_) (a' := ?_) #[true, true, false, false, false, false, false, false, false, false, false] rfl rfl (any_of HT_.out (by kernel_rfl)) (fun _ _ _ h => h) (Or.inl ⟨by rfl, ?_⟩) ?_ ?_; (rotate_left; · intro w'; go_simp; with_reducible rfl); (rotate_left; · simp only [Act.put, List.setIfInBounds_toArray, List.set_cons_zero, List.set_cons_succ, i64_w, i32_w]; rfl)
        refine pure_ (i := 4) (N := some 28) (v := ?_) (a' := ?_) #[true, true, false, false, true, false, false, false, false, false, false] rfl rfl (any_of HT_.out (by kernel_rfl)) (fun _ _ _ h => h) (Or.inl ⟨by rfl, ?_⟩) ?_ ?_; (rotate_left; · intro w'; go_simp; with_reducible rfl); (rotate_left; · simp only [Act.put, List.setIfInBounds_toArray, List.set_cons_zero, List.set_cons_succ, i64_w, i32_w]; rfl)
        refine pure_ (i := 5) (N := some 29) (v := ?_) (a' := ?_) #[true, true, false, false, true, true, false, false, false, false, false] rfl rfl (any_of HT_.out (by kernel_rfl)) (fun _ _ _ h => h) (Or.inl ⟨by rfl, ?_⟩) ?_ ?_; (rotate_left; · intro w'; go_simp; with_reducible rfl); (rotate_left; · simp only [Act.put, List.setIfInBounds_toArray, List.set_cons_zero, List.set_cons_succ, i64_w, i32_w]; rfl)
        refine take_ (i := 2) (N := some 26) (v := ?_) (a' := ?_) #[true, true, true, false, true, true, false, false, false, false, false] rfl rfl (take_ofW HT_.out HW_.out (by kernel_rfl)) (fun _ _ _ h => h) (Or.inl ⟨by rfl, ?_⟩) hHeld ?_ ?_; (rotate_left; · rintro w' ⟨s0, s1⟩; go_simp; with_reducible rfl); (rotate_left; · simp only [Act.put, List.setIfInBounds_toArray, List.set_cons_zero, List.set_cons_succ, i64_w, i32_w]; rfl)
        refine take_ (i := 6) (N := some 30) (v := ?_) (a' := ?_) #[true, true, true, false, true, true, true, false, false, false, false] rfl rfl (take_ofW HT_.out HW_.out (by kernel_rfl)) (fun _ _ _ h => h) (Or.inl ⟨by rfl, ?_⟩) hHeld ?_ ?_; (rotate_left; · rintro w' ⟨s0, s1⟩; go_simp; with_reducible rfl); (rotate_left; · simp only [Act.put, List.setIfInBounds_toArray, List.set_cons_zero, List.set_cons_succ, i64_w, i32_w]; rfl)
        refine join_ (σ := Value × Value × Nat) 1 #[true, true, true, true, true, true, true, true, true, true, false] (fun s_ => [(27, s_.1), (31, s_.2.1), (32, .agg #[.int .i64 a0_0, s_.2.1]), (3, .pointer (some ⟨s_.2.2, 0, none⟩))]) (fun s_ w' => Live w w' [Box g1 #[.int .i64 a0_0, .slice A0_1 l0_1.length c0_1, .int .i64 a0_2, .int .i64 a0_3] 48, Row w.heap.size k36 36 s_.2.1 l0_1, Box s_.2.2 #[.int .i64 0, .slice none 0 0] 24] ∧ w.heap.size ≤ s_.2.2) ?_ ?_
        rotate_left
        · intro hJ_
          refine two_ (i := 3) (j := 9) (Ni := some 27) (Nj := some 3) #[true, true, true, true, true, true, true, false, false, false, false] #[true, true, true, false, true, true, true, false, false, true, false] rfl rfl rfl rfl (two_of HT_.out (by kernel_rfl)) (by decide) (by decide) (fun K hK => ?_) (fun K hK => ?_)
          · skip
            refine lit0_step HL (i := 1) rfl k36 36 27 (by rfl) rfl ?hr ?_; (case hr => first | (go_simp; done) | (go_simp; rfl))
            intro v27 w27 HL2
            refine hK.out _ _ ⟨(HL2.box_cell (i := 0) rfl 0).trans rfl, (HL2.box_cell (i := 0) rfl 1).trans rfl⟩ (fun hHeld => ?_)
            clear hK K; refine norm_ (a' := ?_) ?_ ?_; (rotate_left; · show Act.put _ (some 27) _ = _; simp only [Act.put, List.setIfInBounds_toArray, List.set_cons_zero, List.set_cons_succ, i64_w, i32_w]; rfl)
            clear HL; have HL := HL2; clear HL2
            refine two_ (i := 7) (j := 9) (Ni := some 31) (Nj := some 3) #[true, true, true, true, true, true, true, true, false, false, false] #[true, true, true, true, true, true, true, false, false, true, false] rfl rfl rfl rfl (two_of HT_.out (by kernel_rfl)) (by decide) (by decide) (fun K hK => ?_) (fun K hK => ?_)
            · skip
              refine rows_step HL (i := 1) rfl l0_1 A0_1 c0_1 (.tmp 27) (.tmp 30) 22 (.agg #[(.int .i64 0), (.int .i64 0), (.int .i64 0)]) 24 (by rfl) rfl Try.underlying22 info36 rfl (by decide) (by decide) rfl rfl (Kd.C_below HR0.out HL.hb) (fun x cs h => by obtain rfl := k36_open h; exact k36_mkM _ _ _ _) (by simp only [List.length_nil, Nat.zero_add]; omega) ?_
              intro v31 w31 HL2
              rw [List.nil_append] at HL2
              refine hK.out _ _ ⟨(HL2.box_cell (i := 0) rfl 0).trans rfl, (HL2.box_cell (i := 0) rfl 1).trans rfl⟩ (fun hHeld => ?_)
              clear hK K; refine norm_ (a' := ?_) ?_ ?_; (rotate_left; · show Act.put _ (some 31) _ = _; simp only [Act.put, List.setIfInBounds_toArray, List.set_cons_zero, List.set_cons_succ, i64_w, i32_w]; rfl)
              clear HL; have HL := HL2; clear HL2
              obtain ⟨A_, c_, e_⟩ := Kd.R_slice (HL.row (i := 1) rfl)
              subst e_
              refine pure_ (i := 8) (N := some 32) (v := ?_) (a' := ?_) #[true, true, true, true, true, true, true, true, true, false, false] rfl rfl (any_of HT_.out (by kernel_rfl)) (fun _ _ _ h => h) (Or.inl ⟨by rfl, ?_⟩) ?_ ?_; (rotate_left; · intro w'; go_simp; with_reducible rfl); (rotate_left; · simp only [Act.put, List.setIfInBounds_toArray, List.set_cons_zero, List.set_cons_succ, i64_w, i32_w]; rfl)
              refine one_ (i := 9) (N := some 3) #[true, true, true, true, true, true, true, true, true, true, false] rfl rfl (one_of HT_.out (by kernel_rfl)) (by decide) (fun K hK => ?_)
              have HS_ := HL.size
              refine value_ (w1 := ?_) (v := ?_) (by rfl) rfl ?_ ?_; (rotate_left 2; · (go_simp; (constructor <;> rfl)))
              have HL2 := HL.fill_box (i := 2) rfl #[.int .i64 0, .slice none 0 0] 24
              refine hK.out _ _ ⟨(HL2.box_cell (i := 0) rfl 0).trans rfl, (HL2.box_cell (i := 0) rfl 1).trans rfl⟩ (fun hHeld => ?_); clear hK K
              exact norm_ (by first | (simp only [putAll, Act.put, List.setIfInBounds_toArray, List.set_cons_zero, List.set_cons_succ]; done) | (simp only [putAll, Act.put, List.setIfInBounds_toArray, List.set_cons_zero, List.set_cons_succ]; rfl)) (hJ_ (⟨v27, _, _⟩) _ ⟨HL2, HL.size⟩)
            · skip
              have HS_ := HL.size
              refine value_ (w1 := ?_) (v := ?_) (by rfl) rfl ?_ ?_; (rotate_left 2; · (go_simp; (constructor <;> rfl)))
              have HL2 := HL.fill_box (i := 2) rfl #[.int .i64 0, .slice none 0 0] 24
              refine hK.out _ _ ⟨(HL2.box_cell (i := 0) rfl 0).trans rfl, (HL2.box_cell (i := 0) rfl 1).trans rfl⟩ (fun hHeld => ?_)
              clear hK K; refine norm_ (a' := ?_) ?_ ?_; (rotate_left; · show Act.put _ (some 3) _ = _; simp only [Act.put, List.setIfInBounds_toArray, List.set_cons_zero, List.set_cons_succ, i64_w, i32_w]; rfl)
              clear HL; have HL := HL2; clear HL2
              refine one_ (i := 7) (N := some 31) #[true, true, true, true, true, true, true, true, false, true, false] rfl rfl (one_of HT_.out (by kernel_rfl)) (by decide) (fun K hK => ?_)
              refine rows_step HL (i := 1) rfl l0_1 A0_1 c0_1 (.tmp 27) (.tmp 30) 22 (.agg #[(.int .i64 0), (.int .i64 0), (.int .i64 0)]) 24 (by rfl) rfl Try.underlying22 info36 rfl (by decide) (by decide) rfl rfl (Kd.C_below HR0.out HL.hb) (fun x cs h => by obtain rfl := k36_open h; exact k36_mkM _ _ _ _) (by simp only [List.length_nil, Nat.zero_add]; omega) ?_
              intro v31 w31 HL2
              rw [List.nil_append] at HL2
              refine hK.out _ _ ⟨(HL2.box_cell (i := 0) rfl 0).trans rfl, (HL2.box_cell (i := 0) rfl 1).trans rfl⟩ (fun hHeld => ?_)
              clear hK K; refine norm_ (a' := ?_) ?_ ?_; (rotate_left; · show Act.put _ (some 31) _ = _; simp only [Act.put, List.setIfInBounds_toArray, List.set_cons_zero, List.set_cons_succ, i64_w, i32_w]; rfl)
              clear HL; have HL := HL2; clear HL2
              obtain ⟨A_, c_, e_⟩ := Kd.R_slice (HL.row (i := 1) rfl)
              subst e_
              refine pure_ (i := 8) (N := some 32) (v := ?_) (a' := ?_) #[true, true, true, true, true, true, true, true, true, true, false] rfl rfl (any_of HT_.out (by kernel_rfl)) (fun _ _ _ h => h) (Or.inl ⟨by rfl, ?_⟩) ?_ ?_; (rotate_left; · intro w'; go_simp; with_reducible rfl); (rotate_left; · simp only [Act.put, List.setIfInBounds_toArray, List.set_cons_zero, List.set_cons_succ, i64_w, i32_w]; rfl)
              have HL2 := HL
              exact norm_ (by first | (simp only [putAll, Act.put, List.setIfInBounds_toArray, List.set_cons_zero, List.set_cons_succ]; done) | (simp only [putAll, Act.put, List.setIfInBounds_toArray, List.set_cons_zero, List.set_cons_succ]; rfl)) (hJ_ (⟨v27, _, _⟩) _ ⟨HL2, HS_⟩)
          · skip
            have HS_ := HL.size
            refine value_ (w1 := ?_) (v := ?_) (by rfl) rfl ?_ ?_; (rotate_left 2; · (go_simp; (constructor <;> rfl)))
            have HL2 := HL.fill_box (i := 2) rfl #[.int .i64 0, .slice none 0 0] 24
            refine hK.out _ _ ⟨(HL2.box_cell (i := 0) rfl 0).trans rfl, (HL2.box_cell (i := 0) rfl 1).trans rfl⟩ (fun hHeld => ?_)
            clear hK K; refine norm_ (a' := ?_) ?_ ?_; (rotate_left; · show Act.put _ (some 3) _ = _; simp only [Act.put, List.setIfInBounds_toArray, List.set_cons_zero, List.set_cons_succ, i64_w, i32_w]; rfl)
            clear HL; have HL := HL2; clear HL2
            refine one_ (i := 3) (N := some 27) #[true, true, true, true, true, true, true, false, false, true, false] rfl rfl (one_of HT_.out (by kernel_rfl)) (by decide) (fun K hK => ?_)
            refine lit0_step HL (i := 1) rfl k36 36 27 (by rfl) rfl ?hr ?_; (case hr => first | (go_simp; done) | (go_simp; rfl))
            intro v27 w27 HL2
            refine hK.out _ _ ⟨(HL2.box_cell (i := 0) rfl 0).trans rfl, (HL2.box_cell (i := 0) rfl 1).trans rfl⟩ (fun hHeld => ?_)
            clear hK K; refine norm_ (a' := ?_) ?_ ?_; (rotate_left; · show Act.put _ (some 27) _ = _; simp only [Act.put, List.setIfInBounds_toArray, List.set_cons_zero, List.set_cons_succ, i64_w, i32_w]; rfl)
            clear HL; have HL := HL2; clear HL2
            refine one_ (i := 7) (N := some 31) #[true, true, true, true, true, true, true, true, false, true, false] rfl rfl (one_of HT_.out (by kernel_rfl)) (by decide) (fun K hK => ?_)
            refine rows_step HL (i := 1) rfl l0_1 A0_1 c0_1 (.tmp 27) (.tmp 30) 22 (.agg #[(.int .i64 0), (.int .i64 0), (.int .i64 0)]) 24 (by rfl) rfl Try.underlying22 info36 rfl (by decide) (by decide) rfl rfl (Kd.C_below HR0.out HL.hb) (fun x cs h => by obtain rfl := k36_open h; exact k36_mkM _ _ _ _) (by simp only [List.length_nil, Nat.zero_add]; omega) ?_
            intro v31 w31 HL2
            rw [List.nil_append] at HL2
            refine hK.out _ _ ⟨(HL2.box_cell (i := 0) rfl 0).trans rfl, (HL2.box_cell (i := 0) rfl 1).trans rfl⟩ (fun hHeld => ?_)
            clear hK K; refine norm_ (a' := ?_) ?_ ?_; (rotate_left; · show Act.put _ (some 31) _ = _; simp only [Act.put, List.setIfInBounds_toArray, List.set_cons_zero, List.set_cons_succ, i64_w, i32_w]; rfl)
            clear HL; have HL := HL2; clear HL2
            obtain ⟨A_, c_, e_⟩ := Kd.R_slice (HL.row (i := 1) rfl)
            subst e_
            refine pure_ (i := 8) (N := some 32) (v := ?_) (a' := ?_) #[true, true, true, true, true, true, true, true, true, true, false] rfl rfl (any_of HT_.out (by kernel_rfl)) (fun _ _ _ h => h) (Or.inl ⟨by rfl, ?_⟩) ?_ ?_; (rotate_left; · intro w'; go_simp; with_reducible rfl); (rotate_left; · simp only [Act.put, List.setIfInBounds_toArray, List.set_cons_zero, List.set_cons_succ, i64_w, i32_w]; rfl)
            have HL2 := HL
            exact norm_ (by first | (simp only [putAll, Act.put, List.setIfInBounds_toArray, List.set_cons_zero, List.set_cons_succ]; done) | (simp only [putAll, Act.put, List.setIfInBounds_toArray, List.set_cons_zero, List.set_cons_succ]; rfl)) (hJ_ (⟨v27, _, _⟩) _ ⟨HL2, HS_⟩)
        clear HL hHeld; rintro ⟨v27, vA, g3⟩ wj ⟨HL, G3⟩
        refine norm_ (a' := ?_) ?_ ?_; (rotate_left; · simp only [putAll, Act.put, List.setIfInBounds_toArray, List.set_cons_zero, List.set_cons_succ]; rfl)
        obtain ⟨A3, c3, e_⟩ := Kd.R_slice (HL.row (i := 1) rfl)
        subst e_
        have f3 := HL.box_fz (i := 2) rfl
        have b3' := HL.box_cell (i := 2) rfl
        refine one_ (i := 10) (N := none) #[true, true, true, true, true, true, true, true, true, true, true] rfl rfl (one_of HT_.out (by kernel_rfl)) (by decide) (fun K hK => ?_)
        refine skip_ (w1 := (wj.setCell ⟨g3, 0, none⟩ (.int .i64 a0_0)).setCell ⟨g3, 1, none⟩ (.slice A3 l0_1.length c3)) (by rfl) rfl (by first | (go_simp; done) | (go_simp; rfl)) ?_
        have HL2 := (HL.setbox (i := 2) rfl G3 0 (.int .i64 a0_0)).setbox (i := 2) rfl G3 1 (.slice A3 l0_1.length c3)
        refine hK.out _ _ ⟨(HL2.box_cell (i := 0) rfl 0).trans rfl, (HL2.box_cell (i := 0) rfl 1).trans rfl⟩ (fun hHeld => ?_); clear hK K
        clear HL f3 b3' hHeld
        have HL := Aside0.mk HL2
        clear HL2
        generalize (wj.setCell ⟨g3, 0, none⟩ (.int .i64 a0_0)).setCell ⟨g3, 1, none⟩ (.slice A3 l0_1.length c3) = w7 at HL ⊢
        refine done_ (done_of HT_.out (by kernel_rfl)) ?_
        clear HT_ HW_
        go_wp2
        go_loopg [4] l0_1.length (fun gk v4 wr => ∃ j : Nat, v4 = .int .i64 (j : Int) ∧ Aside0 (l0_1.length = j + gk) ∧ Aside0 (Live w wr [Box g1 #[.int .i64 a0_0, .slice A0_1 l0_1.length c0_1, .int .i64 a0_2, .int .i64 a0_3] 48, Row w.heap.size k36 36 (.slice A3 l0_1.length c3) (onesK l0_1 j), Box g3 #[.int .i64 a0_0, .slice A3 l0_1.length c3] 24]))
        case atStart => exact ⟨0, rfl, ⟨by omega⟩, HL⟩
        case round =>
          clear HL
          obtain ⟨j, rfl, HK, HL⟩ := hrel
          have n1 : wr.cell? ⟨g3, 1, none⟩ = some (.slice A3 l0_1.length c3) := (HL.out.box_cell (i := 2) rfl 1).trans rfl
          cases gk with
          | zero =>
            have hj : decide (j < l0_1.length) = false := decide_eq_false (by have := HK.out; omega)
            obtain rfl : j = l0_1.length := by have := HK.out; omega
            have hLl := onesK_len l0_1 l0_1.length
            clear HK
            generalize onesK l0_1 l0_1.length = L at hLl HL HMax HEnds HRes
            have HLl := Aside0.mk hLl
            clear hLl
            have hr3 := fun W (HB : Below wr.heap.size wr W) => Kd.C_below (Kd.R_reads' (HL.out.row (i := 1) rfl)).2.2 HB
            have HR3 := Aside0.mk hr3
            have hc3 := (Kd.R_reads' (HL.out.row (i := 1) rfl)).2.1
            have HC3 := Aside0.mk (show L.length ≤ c3 by rw [HLl.out]; exact hc3)
            clear hr3 hc3 n1
            have HCM := Aside0.mk (by have h := flow_Max.calls k a0_0 A3 c3 L a0_2 a0_3 q1 q2 q3 q4 wr (HR3.out wr (Below.refl _ _)) HC3.out HMax.out; rw [HLl.out] at h; exact h)
            have b0 : wr.cell? ⟨g1, 0, none⟩ = some (.int .i64 a0_0) := (HL.out.box_cell (i := 0) rfl 0).trans rfl
            have b1 : wr.cell? ⟨g1, 1, none⟩ = some (.slice A0_1 l0_1.length c0_1) := (HL.out.box_cell (i := 0) rfl 1).trans rfl
            have b2 : wr.cell? ⟨g1, 2, none⟩ = some (.int .i64 a0_2) := (HL.out.box_cell (i := 0) rfl 2).trans rfl
            have b3 : wr.cell? ⟨g1, 3, none⟩ = some (.int .i64 a0_3) := (HL.out.box_cell (i := 0) rfl 3).trans rfl
            have n0 : wr.cell? ⟨g3, 0, none⟩ = some (.int .i64 a0_0) := (HL.out.box_cell (i := 2) rfl 0).trans rfl
            have n1 : wr.cell? ⟨g3, 1, none⟩ = some (.slice A3 l0_1.length c3) := (HL.out.box_cell (i := 2) rfl 1).trans rfl
            go_upto_if 61 with (first
              | ((with_reducible refine gate_callee (f := 27) rfl ?_); refine goesL_ (some 51) rfl rfl Try.func27 (by kernel_rfl) rfl #[.agg #[.int .i64 a0_0, .slice A3 l0_1.length c3], .int .i64 a0_2, .int .i64 a0_3] rfl (by (try simp only [List.map_toArray, List.map_cons, List.map_nil]); first | done | rfl) ?_; refine HCM.out.mono ?_; rintro e w10 ⟨v1, v2, rfl, ho1, ho2, hb⟩; refine ⟨_, rfl, ?_⟩; (obtain ⟨A1, c1, e1⟩ := Kd.R_slice ho1); subst e1; (obtain ⟨A2, c2, e2⟩ := Kd.R_slice ho2); subst e2; have HL1 := Aside0.mk (HL.out.add2 ho1 ho2 (by decide) hb); clear HL hb ho1 ho2 HCM b0 b1 b2 b3 n0 n1; have HL := HL1; clear HL1; have b0 : w10.cell? ⟨g1, 0, none⟩ = some (.int .i64 a0_0) := (HL.out.box_cell (i := 0) rfl 0).trans rfl; have b1 : w10.cell? ⟨g1, 1, none⟩ = some (.slice A0_1 l0_1.length c0_1) := (HL.out.box_cell (i := 0) rfl 1).trans rfl; have b2 : w10.cell? ⟨g1, 2, none⟩ = some (.int .i64 a0_2) := (HL.out.box_cell (i := 0) rfl 2).trans rfl; have b3 : w10.cell? ⟨g1, 3, none⟩ = some (.int .i64 a0_3) := (HL.out.box_cell (i := 0) rfl 3).trans rfl; have n0 : w10.cell? ⟨g3, 0, none⟩ = some (.int .i64 a0_0) := (HL.out.box_cell (i := 2) rfl 0).trans rfl; have n1 : w10.cell? ⟨g3, 1, none⟩ = some (.slice A3 l0_1.length c3) := (HL.out.box_cell (i := 2) rfl 1).trans rfl)
              | ((with_reducible refine gate_dst (N := 5) rfl ?_); refine ev_new HL #[.int .i64 0, .slice none 0 0, .slice none 0 0] 39 rfl 5 rfl ?hr ?_; (case hr => first | (go_simp; done) | (go_simp; rfl)); intro g5 w11 G5 HL1; clear HL b0 b1 b2 b3 n0 n1; have HL := HL1; clear HL1; have fb := HL.out.box_fz (i := 5) rfl; have bb := HL.out.box_cell (i := 5) rfl; have b0 : w11.cell? ⟨g1, 0, none⟩ = some (.int .i64 a0_0) := (HL.out.box_cell (i := 0) rfl 0).trans rfl; have b1 : w11.cell? ⟨g1, 1, none⟩ = some (.slice A0_1 l0_1.length c0_1) := (HL.out.box_cell (i := 0) rfl 1).trans rfl; have b2 : w11.cell? ⟨g1, 2, none⟩ = some (.int .i64 a0_2) := (HL.out.box_cell (i := 0) rfl 2).trans rfl; have b3 : w11.cell? ⟨g1, 3, none⟩ = some (.int .i64 a0_3) := (HL.out.box_cell (i := 0) rfl 3).trans rfl; have n0 : w11.cell? ⟨g3, 0, none⟩ = some (.int .i64 a0_0) := (HL.out.box_cell (i := 2) rfl 0).trans rfl; have n1 : w11.cell? ⟨g3, 1, none⟩ = some (.slice A3 l0_1.length c3) := (HL.out.box_cell (i := 2) rfl 1).trans rfl)
              | ((with_reducible refine gate_store (t := 39) (p := 5) rfl ?_); refine ev_set HL (fun h => ((h.setbox (i := 5) rfl G5 0 (.int .i64 q1)).setbox (i := 5) rfl G5 1 (.slice A1 q2.length c1)).setbox (i := 5) rfl G5 2 (.slice A2 q3.length c2)) 39 5 rfl rfl rfl ?hr ?_; (case hr => first | (go_simp; done) | (go_simp; rfl)); intro w12 HL1; clear HL fb bb b0 b1 b2 b3 n0 n1; have HL := HL1; clear HL1; have b0 : w12.cell? ⟨g1, 0, none⟩ = some (.int .i64 a0_0) := (HL.out.box_cell (i := 0) rfl 0).trans rfl; have b1 : w12.cell? ⟨g1, 1, none⟩ = some (.slice A0_1 l0_1.length c0_1) := (HL.out.box_cell (i := 0) rfl 1).trans rfl; have b2 : w12.cell? ⟨g1, 2, none⟩ = some (.int .i64 a0_2) := (HL.out.box_cell (i := 0) rfl 2).trans rfl; have b3 : w12.cell? ⟨g1, 3, none⟩ = some (.int .i64 a0_3) := (HL.out.box_cell (i := 0) rfl 3).trans rfl; have n0 : w12.cell? ⟨g3, 0, none⟩ = some (.int .i64 a0_0) := (HL.out.box_cell (i := 2) rfl 0).trans rfl; have n1 : w12.cell? ⟨g3, 1, none⟩ = some (.slice A3 l0_1.length c3) := (HL.out.box_cell (i := 2) rfl 1).trans rfl; have x0 : w12.cell? ⟨g5, 0, none⟩ = some (.int .i64 q1) := (HL.out.box_cell (i := 5) rfl 0).trans rfl; have x1 : w12.cell? ⟨g5, 1, none⟩ = some (.slice A1 q2.length c1) := (HL.out.box_cell (i := 5) rfl 1).trans rfl; have x2 : w12.cell? ⟨g5, 2, none⟩ = some (.slice A2 q3.length c2) := (HL.out.box_cell (i := 5) rfl 2).trans rfl)
              | ((with_reducible refine gate_callee (f := 21) rfl ?_); refine goesL_ (some 59) rfl rfl Try.func21 (by kernel_rfl) rfl #[.agg #[.int .i64 a0_0, .slice A3 l0_1.length c3], .int .i64 a0_2, .int .i64 a0_3] rfl (by (try simp only [List.map_toArray, List.map_cons, List.map_nil]); first | done | rfl) ?_; have HCE_ := codewrightref51_Ends.calls k a0_0 A3 c3 L a0_2 a0_3 x w12 (by have := (Kd.R_reads' (HL.out.row (i := 1) rfl)).2.2; exact this) HC3.out HEnds.out; rw [HLl.out] at HCE_; refine HCE_.mono ?_; clear HCE_; rintro e w13 ⟨rfl, hb⟩; refine ⟨_, rfl, ?_⟩; have HL1 := Aside0.mk (HL.out.same hb); clear HL hb b0 b1 b2 b3 n0 n1 x0 x1 x2; have HL := HL1; clear HL1; have b0 : w13.cell? ⟨g1, 0, none⟩ = some (.int .i64 a0_0) := (HL.out.box_cell (i := 0) rfl 0).trans rfl; have b1 : w13.cell? ⟨g1, 1, none⟩ = some (.slice A0_1 l0_1.length c0_1) := (HL.out.box_cell (i := 0) rfl 1).trans rfl; have b2 : w13.cell? ⟨g1, 2, none⟩ = some (.int .i64 a0_2) := (HL.out.box_cell (i := 0) rfl 2).trans rfl; have b3 : w13.cell? ⟨g1, 3, none⟩ = some (.int .i64 a0_3) := (HL.out.box_cell (i := 0) rfl 3).trans rfl; have n0 : w13.cell? ⟨g3, 0, none⟩ = some (.int .i64 a0_0) := (HL.out.box_cell (i := 2) rfl 0).trans rfl; have n1 : w13.cell? ⟨g3, 1, none⟩ = some (.slice A3 l0_1.length c3) := (HL.out.box_cell (i := 2) rfl 1).trans rfl; have x0 : w13.cell? ⟨g5, 0, none⟩ = some (.int .i64 q1) := (HL.out.box_cell (i := 5) rfl 0).trans rfl; have x1 : w13.cell? ⟨g5, 1, none⟩ = some (.slice A1 q2.length c1) := (HL.out.box_cell (i := 5) rfl 1).trans rfl; have x2 : w13.cell? ⟨g5, 2, none⟩ = some (.slice A2 q3.length c2) := (HL.out.box_cell (i := 5) rfl 2).trans rfl)
              )
            have h4 := HRes.out
            clear HRes HMax HEnds HFew HAl
            split at h4
            · rename_i hx0
              subst hx0
              obtain ⟨⟨rs, e⟩, hrt, h5⟩ := Option.bind_eq_some_iff.1 h4
              clear h4
              simp only at h5
              split at h5
              · rename_i hg
                obtain ⟨rfl, rfl, g2, g3_⟩ := hg
                obtain ⟨⟨uE, pE⟩, hall, h6⟩ := Option.bind_eq_some_iff.1 h5
                obtain ⟨lE, hlv, h7⟩ := Option.bind_eq_some_iff.1 h6
                clear h5 h6
                simp only at h7
                split at h7
                · rename_i hg
                  obtain ⟨hp1, hp2⟩ := hg
                  subst hp1
                  have hp3 := hp2.symm
                  subst hp3
                  clear hp2
                  obtain rfl := Option.some.inj h7
                  have HRt := Aside0.mk hrt
                  have HALL := Aside0.mk hall
                  have HLV := Aside0.mk hlv
                  have d15 : ((q3.length : Int) != a0_0) = false := bne_eq_false_iff_eq.2 g2
                  clear h7 hrt hall hlv
                  go_wp2_with (first
                    | ((with_reducible refine gate_callee (f := 30) rfl ?_); refine goesL_ (some 72) rfl rfl Try.func30 (by kernel_rfl) rfl #[.agg #[.int .i64 a0_0, .slice A3 l0_1.length c3], .int .i64 a0_2, .int .i64 a0_3, .agg #[.int .i64 q1, .slice A1 q2.length c1, .slice A2 q3.length c2]] rfl (by (try simp only [List.map_toArray, List.map_cons, List.map_nil]); first | done | rfl) ?_; have HCR_ := flow_Routes.calls k a0_0 A3 c3 L a0_2 a0_3 q1 A1 c1 q2 A2 c2 q3 rs 0 _ (by have := (Kd.R_reads' (HL.out.row (i := 1) rfl)).2.2; exact this) HC3.out (Kd.R_reads' (HL.out.row (i := 3) rfl)).2.2 (Kd.R_reads' (HL.out.row (i := 3) rfl)).2.1 (Kd.R_reads' (HL.out.row (i := 4) rfl)).2.2 (Kd.R_reads' (HL.out.row (i := 4) rfl)).2.1 HRt.out; rw [HLl.out] at HCR_; refine HCR_.mono ?_; clear HCR_; rintro e w14 ⟨v4, rfl, ho, hb⟩; refine ⟨_, rfl, ?_⟩; (obtain ⟨A4, c4, e_⟩ := Kd.R_slice ho); subst e_; have HL1 := Aside0.mk (HL.out.add_row ho hb); clear HL ho hb b0 b1 b2 b3 n0 n1 x0 x1 x2; have HL := HL1; clear HL1; have b0 : w14.cell? ⟨g1, 0, none⟩ = some (.int .i64 a0_0) := (HL.out.box_cell (i := 0) rfl 0).trans rfl; have b1 : w14.cell? ⟨g1, 1, none⟩ = some (.slice A0_1 l0_1.length c0_1) := (HL.out.box_cell (i := 0) rfl 1).trans rfl; have b2 : w14.cell? ⟨g1, 2, none⟩ = some (.int .i64 a0_2) := (HL.out.box_cell (i := 0) rfl 2).trans rfl; have b3 : w14.cell? ⟨g1, 3, none⟩ = some (.int .i64 a0_3) := (HL.out.box_cell (i := 0) rfl 3).trans rfl; have n0 : w14.cell? ⟨g3, 0, none⟩ = some (.int .i64 a0_0) := (HL.out.box_cell (i := 2) rfl 0).trans rfl; have n1 : w14.cell? ⟨g3, 1, none⟩ = some (.slice A3 l0_1.length c3) := (HL.out.box_cell (i := 2) rfl 1).trans rfl; have x0 : w14.cell? ⟨g5, 0, none⟩ = some (.int .i64 q1) := (HL.out.box_cell (i := 5) rfl 0).trans rfl; have x1 : w14.cell? ⟨g5, 1, none⟩ = some (.slice A1 q2.length c1) := (HL.out.box_cell (i := 5) rfl 1).trans rfl; have x2 : w14.cell? ⟨g5, 2, none⟩ = some (.slice A2 q3.length c2) := (HL.out.box_cell (i := 5) rfl 2).trans rfl)
                    | ((with_reducible refine gate_dst (N := 92) rfl ?_); refine ev_make HL Kd.bool 4 false l0_1.length 92 28 _ _ (.bool false) 1 rfl rfl rfl rfl rfl Try.underlying28 info4 rfl (by decide) (by decide) rfl (by omega) ?_; intro v10 w15 HL1; clear HL b0 b1 b2 b3 n0 n1 x0 x1 x2; have HL := HL1; clear HL1; (obtain ⟨A10, c10, e_⟩ := Kd.R_slice (HL.out.row (i := 7) rfl)); (rw [List.length_replicate] at e_); subst e_; have b0 : w15.cell? ⟨g1, 0, none⟩ = some (.int .i64 a0_0) := (HL.out.box_cell (i := 0) rfl 0).trans rfl; have b1 : w15.cell? ⟨g1, 1, none⟩ = some (.slice A0_1 l0_1.length c0_1) := (HL.out.box_cell (i := 0) rfl 1).trans rfl; have b2 : w15.cell? ⟨g1, 2, none⟩ = some (.int .i64 a0_2) := (HL.out.box_cell (i := 0) rfl 2).trans rfl; have b3 : w15.cell? ⟨g1, 3, none⟩ = some (.int .i64 a0_3) := (HL.out.box_cell (i := 0) rfl 3).trans rfl; have n0 : w15.cell? ⟨g3, 0, none⟩ = some (.int .i64 a0_0) := (HL.out.box_cell (i := 2) rfl 0).trans rfl; have n1 : w15.cell? ⟨g3, 1, none⟩ = some (.slice A3 l0_1.length c3) := (HL.out.box_cell (i := 2) rfl 1).trans rfl; have x0 : w15.cell? ⟨g5, 0, none⟩ = some (.int .i64 q1) := (HL.out.box_cell (i := 5) rfl 0).trans rfl; have x1 : w15.cell? ⟨g5, 1, none⟩ = some (.slice A1 q2.length c1) := (HL.out.box_cell (i := 5) rfl 1).trans rfl; have x2 : w15.cell? ⟨g5, 2, none⟩ = some (.slice A2 q3.length c2) := (HL.out.box_cell (i := 5) rfl 2).trans rfl)
                    )
                  clear b0 b1 b2 b3 n0 n1 x0 x1 x2 d15
                  go_loopg [11, 12, 13, 14, 15] rs.length (fun gk v11 v12 _ _ _ wr => ∃ (j : Nat) (us : List Bool) (p : Int), v11 = .int .i64 p ∧ v12 = .int .i64 (j : Int) ∧ Aside0 (rs.length = j + gk) ∧ Aside0 (dsAll a0_0 L a0_2 a0_3 (rs.drop j) us p = some (uE, q1)) ∧ Aside0 (us.length = l0_1.length) ∧ Aside0 (Live w wr [Box g1 #[.int .i64 a0_0, .slice A0_1 l0_1.length c0_1, .int .i64 a0_2, .int .i64 a0_3] 48, Row w.heap.size k36 36 (.slice A3 l0_1.length c3) L, Box g3 #[.int .i64 a0_0, .slice A3 l0_1.length c3] 24, Row w.heap.size (Kd.int .i64) 3 (.slice A1 q2.length c1) q2, Row w.heap.size Kd.bool 4 (.slice A2 q3.length c2) q3, Box g5 #[.int .i64 q1, .slice A1 q2.length c1, .slice A2 q3.length c2] 39, Row w.heap.size k63 63 (.slice A4 rs.length c4) rs, Row w.heap.size Kd.bool 4 (.slice A10 l0_1.length c10) us]))
                  case atStart => exact ⟨0, _, _, rfl, rfl, ⟨by omega⟩, HALL, ⟨by simp⟩, HL⟩
                  case round =>
                    clear HL HALL HRt
                    obtain ⟨j, us, p, rfl, rfl, HK, HALL, HUS, HL⟩ := hrel
                    have b0 : wr.cell? ⟨g1, 0, none⟩ = some (.int .i64 a0_0) := (HL.out.box_cell (i := 0) rfl 0).trans rfl
                    have b1 : wr.cell? ⟨g1, 1, none⟩ = some (.slice A0_1 l0_1.length c0_1) := (HL.out.box_cell (i := 0) rfl 1).trans rfl
                    have b2 : wr.cell? ⟨g1, 2, none⟩ = some (.int .i64 a0_2) := (HL.out.box_cell (i := 0) rfl 2).trans rfl
                    have b3 : wr.cell? ⟨g1, 3, none⟩ = some (.int .i64 a0_3) := (HL.out.box_cell (i := 0) rfl 3).trans rfl
                    have n0 : wr.cell? ⟨g3, 0, none⟩ = some (.int .i64 a0_0) := (HL.out.box_cell (i := 2) rfl 0).trans rfl
                    have n1 : wr.cell? ⟨g3, 1, none⟩ = some (.slice A3 l0_1.length c3) := (HL.out.box_cell (i := 2) rfl 1).trans rfl
                    have x0 : wr.cell? ⟨g5, 0, none⟩ = some (.int .i64 q1) := (HL.out.box_cell (i := 5) rfl 0).trans rfl
                    have x1 : wr.cell? ⟨g5, 1, none⟩ = some (.slice A1 q2.length c1) := (HL.out.box_cell (i := 5) rfl 1).trans rfl
                    have x2 : wr.cell? ⟨g5, 2, none⟩ = some (.slice A2 q3.length c2) := (HL.out.box_cell (i := 5) rfl 2).trans rfl
                    cases gk with
                    | zero =>
                      have hj : decide (j < rs.length) = false := decide_eq_false (by have := HK.out; omega)
                      have h1 := HALL.out
                      rw [List.drop_of_length_le (by have := HK.out; omega), dsAll] at h1
                      simp only [Option.some.injEq, Prod.mk.injEq] at h1
                      obtain ⟨rfl, hv⟩ := h1
                      replace hv := hv.symm
                      subst hv
                      clear HALL HK
                      go_wp2
                      clear b0 b1 b2 b3 n0 n1 x0 x1 x2 hj
                      go_loopg [16, 17] l0_1.length (fun gk v16 v17 wr => ∃ (j : Nat) (c : Int), v16 = .int .i64 c ∧ v17 = .int .i64 (j : Int) ∧ Aside0 (l0_1.length = j + gk) ∧ Aside0 (dsLeave q3 (L.drop j) c = some q1) ∧ Aside0 (Live w wr [Box g1 #[.int .i64 a0_0, .slice A0_1 l0_1.length c0_1, .int .i64 a0_2, .int .i64 a0_3] 48, Row w.heap.size k36 36 (.slice A3 l0_1.length c3) L, Box g3 #[.int .i64 a0_0, .slice A3 l0_1.length c3] 24, Row w.heap.size (Kd.int .i64) 3 (.slice A1 q2.length c1) q2, Row w.heap.size Kd.bool 4 (.slice A2 q3.length c2) q3, Box g5 #[.int .i64 q1, .slice A1 q2.length c1, .slice A2 q3.length c2] 39, Row w.heap.size k63 63 (.slice A4 rs.length c4) rs, Row w.heap.size Kd.bool 4 (.slice A10 l0_1.length c10) us]))
                      case atStart => exact ⟨0, _, rfl, rfl, ⟨by omega⟩, HLV, HL⟩
                      case round =>
                        clear HL HLV
                        obtain ⟨j, c, rfl, rfl, HK, HLV, HL⟩ := hrel
                        have b0 : wr.cell? ⟨g1, 0, none⟩ = some (.int .i64 a0_0) := (HL.out.box_cell (i := 0) rfl 0).trans rfl
                        have b1 : wr.cell? ⟨g1, 1, none⟩ = some (.slice A0_1 l0_1.length c0_1) := (HL.out.box_cell (i := 0) rfl 1).trans rfl
                        have b2 : wr.cell? ⟨g1, 2, none⟩ = some (.int .i64 a0_2) := (HL.out.box_cell (i := 0) rfl 2).trans rfl
                        have b3 : wr.cell? ⟨g1, 3, none⟩ = some (.int .i64 a0_3) := (HL.out.box_cell (i := 0) rfl 3).trans rfl
                        have n0 : wr.cell? ⟨g3, 0, none⟩ = some (.int .i64 a0_0) := (HL.out.box_cell (i := 2) rfl 0).trans rfl
                        have n1 : wr.cell? ⟨g3, 1, none⟩ = some (.slice A3 l0_1.length c3) := (HL.out.box_cell (i := 2) rfl 1).trans rfl
                        have x0 : wr.cell? ⟨g5, 0, none⟩ = some (.int .i64 q1) := (HL.out.box_cell (i := 5) rfl 0).trans rfl
                        have x1 : wr.cell? ⟨g5, 1, none⟩ = some (.slice A1 q2.length c1) := (HL.out.box_cell (i := 5) rfl 1).trans rfl
                        have x2 : wr.cell? ⟨g5, 2, none⟩ = some (.slice A2 q3.length c2) := (HL.out.box_cell (i := 5) rfl 2).trans rfl
                        cases gk with
                        | zero =>
                          have hj : decide (j < l0_1.length) = false := decide_eq_false (by have := HK.out; omega)
                          have h1 := HLV.out
                          rw [List.drop_of_length_le (by have := HK.out; have := HLl.out; omega), dsLeave] at h1
                          obtain rfl := Option.some.inj h1
                          clear h1 HLV HK
                          go_wp2
                          go_ret
                          exact ⟨rfl, HL.out.hb⟩
                        | succ g2 =>
                          have hj : decide (j < l0_1.length) = true := decide_eq_true (by have := HK.out; omega)
                          have hjz : (j : Int) < (l0_1.length : Int) := by have := HK.out; omega
                          have hjb : j + 1 < 9223372036854775808 := by have := HK.out; omega
                          have h1 := HLV.out
                          rw [show L.drop j = rd_T36 L (j : Int) :: L.drop (j + 1) by
                            have hk : j < L.length := by have := HK.out; have := HLl.out; omega
                            rw [List.drop_eq_getElem_cons hk]; simp [rd_T36, List.getD, hk], dsLeave] at h1
                          clear HLV
                          obtain ⟨adr, e_, xf, xt, -⟩ := at_T36 (Kd.R_reads' (HL.out.row (i := 1) rfl)).2.2 (j : Int) (by omega) (by first | exact hjz | (rw [HLl.out]; exact hjz))
                          subst e_
                          rw [show ((j : Int)).toNat = j from rfl] at xf xt
                          generalize (rd_T36 L (j : Int)).f0 = fr at xf h1
                          generalize (rd_T36 L (j : Int)).f1 = ti at xt h1
                          split at h1
                          · rename_i hg
                            obtain ⟨u0, u1, u2, u3⟩ := hg
                            obtain ⟨fr, rfl⟩ : ∃ q : Nat, fr = (q : Int) := ⟨fr.toNat, by omega⟩
                            obtain ⟨ti, rfl⟩ : ∃ q : Nat, ti = (q : Int) := ⟨ti.toNat, by omega⟩
                            obtain ⟨ads, e_, xs1⟩ := Kd.at_bool (Kd.R_reads' (HL.out.row (i := 4) rfl)).2.2 (fr : Int) (by omega) u1
                            subst e_
                            obtain ⟨ads', e_, xs2⟩ := Kd.at_bool (Kd.R_reads' (HL.out.row (i := 4) rfl)).2.2 (ti : Int) (by omega) u3
                            obtain rfl := Option.some.inj e_
                            rw [show ((fr : Int)).toNat = fr from rfl] at xs1
                            rw [show ((ti : Int)).toNat = ti from rfl] at xs2
                            obtain ⟨s1, hs1⟩ : ∃ z, Aside0 (rdOf false q3 (fr : Int) = z) := ⟨_, ⟨rfl⟩⟩
                            obtain ⟨s2, hs2⟩ : ∃ z, Aside0 (rdOf false q3 (ti : Int) = z) := ⟨_, ⟨rfl⟩⟩
                            rw [hs1.out] at xs1 h1
                            rw [hs2.out] at xs2 h1
                            have HLV := Aside0.mk h1
                            clear h1
                            go_upto_region 37 with (fail)
                            go_cut [185] from 163 to 185 (fun v185 wd => v185 = .bool (s1 && !s2) ∧ Aside0 (Live w wd [Box g1 #[.int .i64 a0_0, .slice A0_1 l0_1.length c0_1, .int .i64 a0_2, .int .i64 a0_3] 48, Row w.heap.size k36 36 (.slice (some adr) l0_1.length c3) L, Box g3 #[.int .i64 a0_0, .slice (some adr) l0_1.length c3] 24, Row w.heap.size (Kd.int .i64) 3 (.slice A1 q2.length c1) q2, Row w.heap.size Kd.bool 4 (.slice (some ads) q3.length c2) q3, Box g5 #[.int .i64 q1, .slice A1 q2.length c1, .slice (some ads) q3.length c2] 39, Row w.heap.size k63 63 (.slice A4 rs.length c4) rs, Row w.heap.size Kd.bool 4 (.slice A10 l0_1.length c10) us]))
                            case first =>
                              clear HLV
                              cases s1 with
                              | true =>
                                go_quiet (fail)
                                go_wp2
                                go_meet
                                case rel => exact ⟨rfl, ⟨HL.out.drewN _⟩⟩
                              | false =>
                                go_quiet (fail)
                                go_wp2
                                go_meet
                                case rel => exact ⟨rfl, ⟨HL.out.drewN _⟩⟩
                            case rest =>
                              clear HL xf xt xs1 xs2 b0 b1 b2 b3 n0 n1 x0 x1 x2
                              obtain ⟨rfl, HL⟩ := hcut
                              cases hb : (s1 && !s2) with
                              | true =>
                                have h1 := HLV.out
                                rw [if_pos (by simpa using hb)] at h1
                                replace HLV := Aside0.mk h1
                                clear h1 hb
                                go_wp2
                                go_roundg g2
                                case measure => omega
                                case rel => exact ⟨j + 1, _, rfl, by go_num, ⟨by have := HK.out; omega⟩, HLV, HL⟩
                              | false =>
                                have h1 := HLV.out
                                rw [if_neg (by simpa using hb)] at h1
                                replace HLV := Aside0.mk h1
                                clear h1 hb
                                go_wp2
                                go_roundg g2
                                case measure => omega
                                case rel => exact ⟨j + 1, _, rfl, by go_num, ⟨by have := HK.out; omega⟩, HLV, HL⟩
                          · cases h1
                    | succ g2 =>
                      have hj : decide (j < rs.length) = true := decide_eq_true (by have := HK.out; omega)
                      have hjz : (j : Int) < (rs.length : Int) := by have := HK.out; omega
                      obtain ⟨rt, hrt⟩ : ∃ rt, Aside0 (rd_T63 rs (j : Int) = rt) := ⟨_, ⟨rfl⟩⟩
                      have h1 := HALL.out
                      rw [show rs.drop j = rd_T63 rs (j : Int) :: rs.drop (j + 1) by
                        have hk : j < rs.length := by have := HK.out; omega
                        rw [List.drop_eq_getElem_cons hk]; simp [rd_T63, List.getD, hk], hrt.out, dsAll] at h1
                      obtain ⟨path, hpath, h2⟩ := Option.bind_eq_some_iff.1 h1
                      clear HALL h1
                      split at h2
                      · rename_i hone
                        obtain ⟨us2, hsub, h3⟩ := Option.bind_eq_some_iff.1 h2
                        have HP := Aside0.mk hpath
                        have HSub := Aside0.mk hsub
                        have HN := Aside0.mk h3
                        have HM1 := Aside0.mk hone
                        clear h2 h3 hpath hsub hone
                        go_upto_region 22 with (fail)
                        go_cut [13, 14] from 99 to 111 (fun v13 v14 wd => v13 = .bool true ∧ v14 = .bool path ∧ Aside0 (Live w wd [Box g1 #[.int .i64 a0_0, .slice A0_1 l0_1.length c0_1, .int .i64 a0_2, .int .i64 a0_3] 48, Row w.heap.size k36 36 (.slice A3 l0_1.length c3) L, Box g3 #[.int .i64 a0_0, .slice A3 l0_1.length c3] 24, Row w.heap.size (Kd.int .i64) 3 (.slice A1 q2.length c1) q2, Row w.heap.size Kd.bool 4 (.slice A2 q3.length c2) q3, Box g5 #[.int .i64 q1, .slice A1 q2.length c1, .slice A2 q3.length c2] 39, Row w.heap.size k63 63 (.slice A4 rs.length c4) rs, Row w.heap.size Kd.bool 4 (.slice A10 l0_1.length c10) us]))
                        case first =>
                          clear HSub HN HLV x0 x1 x2 hj
                          obtain ⟨adr, A', c', e_, xr0, xr1, hl', HC'⟩ := at_T63 (Kd.R_reads' (HL.out.row (i := 6) rfl)).2.2 (j : Int) (by omega) hjz
                          subst e_
                          rw [show ((j : Int)).toNat = j from rfl, hrt.out] at xr0 xr1
                          rw [hrt.out] at HC' hl'
                          have XR := Aside0.mk HC'
                          clear HC' hl'
                          have XX0 := (show wr.drew.cell? _ = _ from xr0)
                          have XX1 := (show wr.drew.cell? _ = _ from xr1)
                          have XC : Kd.C (Kd.int .i64) wr.drew A' rt.f0.length rt.f0 := XR.out
                          clear xr0 xr1
                          replace HL := HL.out.drew
                          refine start_ (n := 15) (S := fun w' => w'.cell? ⟨g3, 0, none⟩ = some (.int .i64 a0_0) ∧ w'.cell? ⟨g3, 1, none⟩ = some (.slice A3 l0_1.length c3) ∧ w'.cell? ⟨g1, 2, none⟩ = some (.int .i64 a0_2) ∧ w'.cell? ⟨g1, 3, none⟩ = some (.int .i64 a0_3) ∧ w'.cell? (adr.add (j * 2)) = some (.slice A' rt.f0.length c') ∧ w'.cell? ⟨(adr.add (j * 2)).block, (adr.add (j * 2)).off + 1, none⟩ = some (.int .i64 rt.f1)) (ds := []) #[false, false, false, false, false, false, false, false, false, false, false, false, false, false, false] (by kernel_rfl) rfl rfl ⟨(HL.box_cell (i := 2) rfl 0).trans rfl, (HL.box_cell (i := 2) rfl 1).trans rfl, (HL.box_cell (i := 0) rfl 2).trans rfl, (HL.box_cell (i := 0) rfl 3).trans rfl, XX0, XX1⟩ (fun hHeld => ?_); refine with_tabW tab13_22 bits13_22 (fun HT_ HW_ => ?_)
                          generalize wr.drew = wd_ at HL hHeld XX0 XX1 XC ⊢
                          refine pure_ (i := 1) (N := some 101) (v := ?_) (a' := ?_) #[false, true, false, false, false, false, false, false, false, false, false, false, false, false, false] rfl rfl (any_of HT_.out (by kernel_rfl)) (fun _ _ _ h => h) (Or.inl ⟨by rfl, ?_⟩) ?_ ?_; (rotate_left; · intro w'; go_simp; with_reducible rfl); (rotate_left; · simp only [Act.put, List.setIfInBounds_toArray, List.set_cons_zero, List.set_cons_succ, i64_w, i32_w]; rfl)
                          refine pure_ (i := 3) (N := some 103) (v := ?_) (a' := ?_) #[false, true, false, true, false, false, false, false, false, false, false, false, false, false, false] rfl rfl (any_of HT_.out (by kernel_rfl)) (fun _ _ _ h => h) (Or.inl ⟨by rfl, ?_⟩) ?_ ?_; (rotate_left; · intro w'; go_simp; with_reducible rfl); (rotate_left; · simp only [Act.put, List.setIfInBounds_toArray, List.set_cons_zero, List.set_cons_succ, i64_w, i32_w]; rfl)
                          refine pure_ (i := 5) (N := some 105) (v := ?_) (a' := ?_) #[false, true, false, true, false, true, false, false, false, false, false, false, false, false, false] rfl rfl (any_of HT_.out (by kernel_rfl)) (fun _ _ _ h => h) (Or.inl ⟨by rfl, ?_⟩) ?_ ?_; (rotate_left; · intro w'; go_simp; with_reducible rfl); (rotate_left; · simp only [Act.put, List.setIfInBounds_toArray, List.set_cons_zero, List.set_cons_succ, i64_w, i32_w]; rfl)
                          refine pure_ (i := 6) (N := some 106) (v := ?_) (a' := ?_) #[false, true, false, true, false, true, true, false, false, false, false, false, false, false, false] rfl rfl (any_of HT_.out (by kernel_rfl)) (fun _ _ _ h => h) (Or.inl ⟨by rfl, ?_⟩) ?_ ?_; (rotate_left; · intro w'; go_simp; with_reducible rfl); (rotate_left; · simp only [Act.put, List.setIfInBounds_toArray, List.set_cons_zero, List.set_cons_succ, i64_w, i32_w]; rfl)
                          refine take_ (i := 0) (N := some 100) (v := ?_) (a' := ?_) #[true, true, false, true, false, true, true, false, false, false, false, false, false, false, false] rfl rfl (take_ofW HT_.out HW_.out (by kernel_rfl)) (fun _ _ _ h => h) (Or.inl ⟨by rfl, ?_⟩) hHeld ?_ ?_; (rotate_left; · rintro w' ⟨s0, s1, s2, s3, s4, s5⟩; go_simp; with_reducible rfl); (rotate_left; · simp only [Act.put, List.setIfInBounds_toArray, List.set_cons_zero, List.set_cons_succ, i64_w, i32_w]; rfl)
                          refine take_ (i := 2) (N := some 102) (v := ?_) (a' := ?_) #[true, true, true, true, false, true, true, false, false, false, false, false, false, false, false] rfl rfl (take_ofW HT_.out HW_.out (by kernel_rfl)) (fun _ _ _ h => h) (Or.inl ⟨by rfl, ?_⟩) hHeld ?_ ?_; (rotate_left; · rintro w' ⟨s0, s1, s2, s3, s4, s5⟩; go_simp; with_reducible rfl); (rotate_left; · simp only [Act.put, List.setIfInBounds_toArray, List.set_cons_zero, List.set_cons_succ, i64_w, i32_w]; rfl)
                          refine take_ (i := 4) (N := some 104) (v := ?_) (a' := ?_) #[true, true, true, true, true, true, true, false, false, false, false, false, false, false, false] rfl rfl (take_ofW HT_.out HW_.out (by kernel_rfl)) (fun _ _ _ h => h) (Or.inl ⟨by rfl, ?_⟩) hHeld ?_ ?_; (rotate_left; · rintro w' ⟨s0, s1, s2, s3, s4, s5⟩; go_simp; with_reducible rfl); (rotate_left; · simp only [Act.put, List.setIfInBounds_toArray, List.set_cons_zero, List.set_cons_succ, i64_w, i32_w]; rfl)
                          refine pure_ (i := 7) (N := some 107) (v := ?_) (a' := ?_) #[true, true, true, true, true, true, true, true, false, false, false, false, false, false, false] rfl rfl (any_of HT_.out (by kernel_rfl)) (fun _ _ _ h => h) (Or.inl ⟨by rfl, ?_⟩) ?_ ?_; (rotate_left; · intro w'; go_simp; with_reducible rfl); (rotate_left; · simp only [Act.put, List.setIfInBounds_toArray, List.set_cons_zero, List.set_cons_succ, i64_w, i32_w]; rfl)
                          refine take_ (i := 8) (N := some 108) (v := ?_) (a' := ?_) #[true, true, true, true, true, true, true, true, true, false, false, false, false, false, false] rfl rfl (take_ofW HT_.out HW_.out (by kernel_rfl)) (fun _ _ _ h => h) (Or.inl ⟨by rfl, ?_⟩) hHeld ?_ ?_; (rotate_left; · rintro w' ⟨s0, s1, s2, s3, s4, s5⟩; go_simp; with_reducible rfl); (rotate_left; · simp only [Act.put, List.setIfInBounds_toArray, List.set_cons_zero, List.set_cons_succ, i64_w, i32_w]; rfl)
                          refine one_ (i := 9) (N := some 109) #[true, true, true, true, true, true, true, true, true, true, false, false, false, false, false] rfl rfl (one_of HT_.out (by kernel_rfl)) (by decide) (fun K hK => ?_)
                          refine goes_ Try.func31 (by kernel_rfl) rfl #[.agg #[.int .i64 a0_0, .slice A3 l0_1.length c3], .int .i64 a0_2, .int .i64 a0_3, .agg #[.slice A' rt.f0.length c', .int .i64 rt.f1]] (by rfl) rfl rfl (by (try simp only [List.map_toArray, List.map_cons, List.map_nil]); first | done | rfl) ?_
                          have HCI_ := isRoute_calls a0_0 A3 c3 L a0_2 a0_3 A' c' rt.f0 rt.f1 path wd_ (by have := (Kd.R_reads' (HL.row (i := 1) rfl)).2.2; exact this) XC HP.out
                          rw [HLl.out] at HCI_
                          refine HCI_.mono ?_
                          rintro e wA ⟨rfl, hb⟩
                          refine ⟨_, rfl, ?_⟩
                          have HL2 := HL.same hb
                          replace XX0 := (hb.cell (World.block_lt_of_cell? wd_ _ XX0)).trans XX0
                          replace XX1 := (hb.cell (World.block_lt_of_cell? wd_ _ XX1)).trans XX1
                          clear hb XC HCI_
                          refine hK.out _ _ ⟨(HL2.box_cell (i := 2) rfl 0).trans rfl, (HL2.box_cell (i := 2) rfl 1).trans rfl, (HL2.box_cell (i := 0) rfl 2).trans rfl, (HL2.box_cell (i := 0) rfl 3).trans rfl, XX0, XX1⟩ (fun hHeld => ?_)
                          clear hK K; refine norm_ (a' := ?_) ?_ ?_; (rotate_left; · show Act.put _ (some 109) _ = _; simp only [Act.put, List.setIfInBounds_toArray, List.set_cons_zero, List.set_cons_succ, i64_w, i32_w]; rfl)
                          clear HL; have HL := HL2; clear HL2
                          refine pure_ (i := 10) (N := some 99) (v := ?_) (a' := ?_) #[true, true, true, true, true, true, true, true, true, true, true, false, false, false, false] rfl rfl (any_of HT_.out (by kernel_rfl)) (fun _ _ _ h => h) (Or.inl ⟨by rfl, ?_⟩) ?_ ?_; (rotate_left; · intro w'; go_simp; with_reducible rfl); (rotate_left; · simp only [Act.put, List.setIfInBounds_toArray, List.set_cons_zero, List.set_cons_succ, i64_w, i32_w]; rfl)
                          refine pure_ (i := 11) (N := some 110) (v := ?_) (a' := ?_) #[true, true, true, true, true, true, true, true, true, true, true, true, false, false, false] rfl rfl (any_of HT_.out (by kernel_rfl)) (fun _ _ _ h => h) (Or.inl ⟨by rfl, ?_⟩) ?_ ?_; (rotate_left; · intro w'; go_simp; with_reducible rfl); (rotate_left; · simp only [Act.put, List.setIfInBounds_toArray, List.set_cons_zero, List.set_cons_succ, i64_w, i32_w]; rfl)
                          refine pure_ (i := 12) (N := some 111) (v := ?_) (a' := ?_) #[true, true, true, true, true, true, true, true, true, true, true, true, true, false, false] rfl rfl (any_of HT_.out (by kernel_rfl)) (fun _ _ _ h => h) (Or.inl ⟨by rfl, ?_⟩) ?_ ?_; (rotate_left; · intro w'; go_simp; with_reducible rfl); (rotate_left; · simp only [Act.put, List.setIfInBounds_toArray, List.set_cons_zero, List.set_cons_succ, i64_w, i32_w]; rfl)
                          refine pure_ (i := 13) (N := some 13) (v := ?_) (a' := ?_) #[true, true, true, true, true, true, true, true, true, true, true, true, true, true, false] rfl rfl (any_of HT_.out (by kernel_rfl)) (fun _ _ _ h => h) (Or.inl ⟨by rfl, ?_⟩) ?_ ?_; (rotate_left; · intro w'; go_simp; with_reducible rfl); (rotate_left; · simp only [Act.put, List.setIfInBounds_toArray, List.set_cons_zero, List.set_cons_succ, i64_w, i32_w]; rfl)
                          refine pure_ (i := 14) (N := some 14) (v := ?_) (a' := ?_) #[true, true, true, true, true, true, true, true, true, true, true, true, true, true, true] rfl rfl (any_of HT_.out (by kernel_rfl)) (fun _ _ _ h => h) (Or.inl ⟨by rfl, ?_⟩) ?_ ?_; (rotate_left; · intro w'; go_simp; with_reducible rfl); (rotate_left; · simp only [Act.put, List.setIfInBounds_toArray, List.set_cons_zero, List.set_cons_succ, i64_w, i32_w]; rfl)
                          refine done_ (done_of HT_.out (by kernel_rfl)) ?_
                          clear HT_ HW_
                          go_wp2
                          go_meet
                          case rel => exact ⟨rfl, rfl, ⟨HL⟩⟩
                        case rest =>
                          clear HL b0 b1 b2 b3 n0 n1 x0 x1 x2 HP
                          obtain ⟨rfl, rfl, HL⟩ := hcut
                          obtain ⟨adr, A', c', e_, xr0, xr1, hl', HC'⟩ := at_T63 (Kd.R_reads' (HL.out.row (i := 6) rfl)).2.2 (j : Int) (by omega) hjz
                          subst e_
                          rw [show ((j : Int)).toNat = j from rfl, hrt.out, HM1.out] at xr1
                          clear xr0 hl' HC'
                          go_wp2
                          clear xr1
                          go_loopg [15] rt.f0.length (fun gk v15 wr => ∃ (m : Nat) (uf : List Bool), v15 = .int .i64 (m : Int) ∧ Aside0 (rt.f0.length = m + gk) ∧ Aside0 (dsMark (rt.f0.drop m) uf = some us2) ∧ Aside0 (uf.length = l0_1.length) ∧ Aside0 (Live w wr [Box g1 #[.int .i64 a0_0, .slice A0_1 l0_1.length c0_1, .int .i64 a0_2, .int .i64 a0_3] 48, Row w.heap.size k36 36 (.slice A3 l0_1.length c3) L, Box g3 #[.int .i64 a0_0, .slice A3 l0_1.length c3] 24, Row w.heap.size (Kd.int .i64) 3 (.slice A1 q2.length c1) q2, Row w.heap.size Kd.bool 4 (.slice A2 q3.length c2) q3, Box g5 #[.int .i64 q1, .slice A1 q2.length c1, .slice A2 q3.length c2] 39, Row w.heap.size k63 63 (.slice (some adr) rs.length c4) rs, Row w.heap.size Kd.bool 4 (.slice A10 l0_1.length c10) uf]))
                          case atStart => exact ⟨0, us, rfl, ⟨by omega⟩, HSub, HUS, HL⟩
                          case round =>
                            clear HL HSub HUS hj
                            obtain ⟨m, uf, rfl, HM, HSub, HUS, HL⟩ := hrel
                            obtain ⟨adr', A', c', e_, xr0, xr1, hl', HC'⟩ := at_T63 (Kd.R_reads' (HL.out.row (i := 6) rfl)).2.2 (j : Int) (by omega) hjz
                            obtain rfl := Option.some.inj e_
                            rw [show ((j : Int)).toNat = j from rfl, hrt.out] at xr0
                            rw [hrt.out] at HC' hl'
                            have XR := Aside0.mk HC'
                            clear HC' hl' xr1
                            have hjb : j + 1 < 9223372036854775808 := by have := HK.out; have := (Kd.R_reads' (HL.out.row (i := 6) rfl)).2.2.2.1; omega
                            cases gk with
                            | zero =>
                              have hm : decide (m < rt.f0.length) = false := decide_eq_false (by have := HM.out; omega)
                              have hfin : uf = us2 := by
                                have h1 := HSub.out
                                rw [List.drop_of_length_le (by have := HM.out; omega)] at h1
                                exact Option.some.inj h1
                              subst hfin
                              clear HSub HM
                              cases path with
                              | true =>
                                replace HN := Aside0.mk (show dsAll a0_0 L a0_2 a0_3 (rs.drop (j + 1)) uf (wrap64 (p + 1)) = some (uE, q1) from HN.out)
                                go_wp2
                                go_roundg g2
                                case measure => omega
                                case rel => exact ⟨j + 1, uf, _, rfl, by go_num, ⟨by have := HK.out; omega⟩, HN, HUS, HL⟩
                              | false =>
                                replace HN := Aside0.mk (show dsAll a0_0 L a0_2 a0_3 (rs.drop (j + 1)) uf p = some (uE, q1) from HN.out)
                                go_wp2
                                go_roundg g2
                                case measure => omega
                                case rel => exact ⟨j + 1, uf, _, rfl, by go_num, ⟨by have := HK.out; omega⟩, HN, HUS, HL⟩
                            | succ g3 =>
                              have hm : decide (m < rt.f0.length) = true := decide_eq_true (by have := HM.out; omega)
                              have hmz : (m : Int) < (rt.f0.length : Int) := by have := HM.out; omega
                              have hmb : m + 1 < 9223372036854775808 := by have := HM.out; have := XR.out.2.1; omega
                              obtain ⟨ada, e_, xa⟩ := Kd.at_int XR.out (m : Int) (by omega) hmz
                              subst e_
                              rw [show ((m : Int)).toNat = m from rfl] at xa
                              have h1 := HSub.out
                              rw [show rt.f0.drop m = rd rt.f0 (m : Int) :: rt.f0.drop (m + 1) by
                                have hk : m < rt.f0.length := by have := HM.out; omega
                                rw [List.drop_eq_getElem_cons hk]; simp [rd, List.getD, hk], dsMark] at h1
                              clear HSub
                              generalize rd rt.f0 (m : Int) = i at xa h1
                              split at h1
                              · rename_i hg
                                obtain ⟨u0, u1, u2⟩ := hg
                                obtain ⟨i, rfl⟩ : ∃ q : Nat, i = (q : Int) := ⟨i.toNat, by omega⟩
                                rw [show ((i : Int)).toNat = i from rfl] at h1
                                have u3 : (i : Int) < (l0_1.length : Int) := by have := HUS.out; omega
                                obtain ⟨gl, pl, el, -, -, -⟩ := Kd.R_form (HL.out.row (i := 7) rfl) (by have := HUS.out; omega)
                                injection el with e1 e2 e3
                                subst e1 e3
                                clear e2
                                obtain ⟨xl, fl⟩ := Kd.R_celln false (HL.out.row (i := 7) rfl) (i : Int) (by omega) u3
                                rw [show ((i : Int)).toNat = i from rfl] at xl fl
                                replace xl : wr.cell? ⟨gl, i, none⟩ = some (.bool false) := xl.trans (congrArg (fun z => some (Value.bool z)) u2)
                                have HSub := Aside0.mk h1
                                clear h1 u1 u2
                                go_wp2_with (first
                                  | ((with_reducible refine gate_store (t := 4) (p := 152) rfl ?_); refine ev_set HL (fun h => h.put (i := 7) (enc := Value.bool) rfl (i : Int) true) 4 152 rfl rfl rfl ?hr ?_; (case hr => first | (go_simp; done) | (go_simp; rfl)); intro w9 HL1; clear HL xl fl xr0 xa; have HL := HL1; clear HL1)
                                  )
                                go_roundg g3
                                case measure => omega
                                case rel => exact ⟨m + 1, _, by go_num, ⟨by have := HM.out; omega⟩, HSub, ⟨by rw [List.length_set]; exact HUS.out⟩, HL⟩
                              · cases h1
                      · cases h2
                · cases h7
              · cases h5
            · rename_i hxn
              split at h4
              · rename_i hg
                obtain ⟨hq4, hq1, hq2, hq3⟩ := hg
                subst hq4
                obtain rfl := Option.some.inj h4
                have d1 : (q4 != 0) = true := bne_iff_ne.2 hxn
                clear h4 hxn
                go_wp2
                go_ret
                exact ⟨rfl, HL.out.hb⟩
              · cases h4
          | succ g2 =>
            have hj : decide (j < l0_1.length) = true := decide_eq_true (by have := HK.out; omega)
            have hjz : (j : Int) < (l0_1.length : Int) := by have := HK.out; omega
            have hjb : j + 1 < 9223372036854775808 := by have := HK.out; omega
            have y3 : j < (onesK l0_1 j).length := by rw [onesK_len]; omega
            obtain ⟨ga, pa, ea, -, -, -⟩ := Kd.R_form (HL.out.row (i := 1) rfl) (by omega)
            injection ea with ea1 ea2 ea3
            subst ea1 ea3
            clear ea2
            obtain ⟨cs, hcl, hM, hcc, hfr⟩ := Kd.R_elem (HL.out.row (i := 1) rfl) z36 (j : Int) (by omega) hjz
            obtain rfl := k36_openM hM
            have hx2 : wr.cell? ⟨ga, j * 3 + 2, none⟩ = some (.int .i64 (rd_T36 (onesK l0_1 j) (j : Int)).f2) := hcc 2 _ rfl
            have hf2 : wr.frozen? ⟨ga, j * 3 + 2, none⟩ = false := hfr 2
            clear hcl hM hcc hfr
            go_wp2_with (first
              | ((with_reducible refine gate_store (t := 3) (p := 44) rfl ?_); refine ev_set HL (fun h => h.seg1 (i := 1) rfl (j : Int) (by omega) hjz 2 (by decide) (.int .i64 1) _ (fun cs' h1 h2 => one_M y3 cs' h1 h2)) 3 44 rfl rfl rfl ?hr ?_; (case hr => first | (go_simp; done) | (go_simp; rfl)); intro w8 HL1; clear HL hx2 hf2 n1; have HL := HL1; clear HL1)
              )
            go_roundg g2
            case measure => omega
            case rel => exact ⟨j + 1, by go_num, ⟨by have := HK.out; omega⟩, HL⟩
      · cases h2
  · cases h1
end Go.Proofs.Ytidomjhihfoabaa.PF
