/- codewrightref51.Max: what its call does, as a plain function on lists. -/
import Derived.Test.YtidomjhihfoabaaHReach
import Derived.Test.YtidomjhihfoabaaPFx42
namespace Go.Proofs.Ytidomjhihfoabaa.PF
open Go Go.RowKit Go.Lib Go.Proofs.YtidomjhihfoabaaW.PrintWords Go.Proofs.YtidomjhihfoabaaW.PrintLast Go.Proofs.YtidomjhihfoabaaW.PrintMore Go.Proofs.Ytidomjhihfoabaa.Lv
attribute [local go_sem] max2_int min2_int max_two min_two max_three min_three max_four min_four
set_option linter.unusedVariables false
set_option linter.unusedSimpArgs false

def T28_1 : Bool × List (List Nat × List Nat) := (true, [([], []), ([0], [0]), ([1], [1]), ([2, 2], [2]), ([], []), ([4], [4]), ([5, 5], [5]), ([3, 6], [3, 6]), ([], []), ([8, 7, 0, 1, 2, 3, 4, 5, 6, 7, 8], [7, 8])])
def B28_1 : List Nat := [0, 1, 3, 7, 0, 16, 48, 127, 0, 511]
theorem tab28_1 : rtab .any (opsOf Try.f28 1) = T28_1 := by kernel_rfl
theorem bits28_1 : waitsOk T28_1.2 B28_1 = true := by kernel_rfl

def xFree (l : List S36) (al : List Int) (x : Int) : Int := if Int.tmod x 2 = 1 then rd al (rHalf x) else wrap64 ((rd_T36 l (rHalf x)).f2 - rd al (rHalf x))
def xAmt (l : List S36) (al : List Int) : List Int → Int → Option Int
  | [], m => some m
  | x :: xs, m => if 0 ≤ rHalf x ∧ rHalf x < (l.length : Int) ∧ rHalf x < (al.length : Int) then xAmt l al xs (mn m (xFree l al x)) else none
def xSide (step : List Int) (n : Nat) : List Bool := (List.range n).map fun (v : Nat) => rd step (v : Int) != -2
def xMain (n : Int) (l : List S36) (s t : Int) : Nat → List Int → Int → List Int → Option (Int × List Int × List Bool)
  | 0, _, _, _ => none
  | k + 1, al, val, step =>
    if 0 ≤ t ∧ t < (step.length : Int) ∧ n ≤ (step.length : Int) then
      (if rd step t = -2 then some (val, al, xSide step n.toNat)
      else (codewrightref51_path.f k n l step t).bind fun p => (xAmt l al p 1099511627776).bind fun m => (xApp m p al).bind fun al2 => (codewrightref51_Reach.f k n l al2 s).bind fun step2 => xMain n l s t k al2 (wrap64 (val + m)) step2)
    else none
def codewrightref51_Max.f (k : Nat) (n : Int) (l : List S36) (s t : Int) : Option (Int × List Int × List Bool) :=
  if 0 < n ∧ n ≤ 1099511627776 ∧ l.length ≤ 1099511627776 then (codewrightref51_Reach.f k n l (List.replicate l.length 0) s).bind fun step => xMain n l s t k (List.replicate l.length 0) 0 step else none
theorem xMain_mono (n : Int) (l : List S36) (s t : Int) : ∀ k al val step, LeO (xMain n l s t k al val step) (xMain n l s t (k + 1) al val step)
  | 0, _, _, _ => fun r h => by simp [xMain] at h
  | k + 1, al, val, step => by
    unfold xMain
    repeat' first
      | exact LeO.refl _
      | exact LeO.none _
      | exact xMain_mono n l s t k _ _ _
      | exact codewrightref51_Reach.mono _ _ _ _ _
      | exact codewrightref51_path.mono _ _ _ _ _
      | refine LeO.ite ?_ ?_
      | refine LeO.bind ?_ (fun _ => ?_)
theorem codewrightref51_Max.mono : ∀ a0 a1 a2 a3 k, LeO (codewrightref51_Max.f k a0 a1 a2 a3) (codewrightref51_Max.f (k + 1) a0 a1 a2 a3) := by
  intro a0 a1 a2 a3 k
  unfold codewrightref51_Max.f
  exact LeO.ite (LeO.bind (codewrightref51_Reach.mono _ _ _ _ _) (fun _ => xMain_mono _ _ _ _ _ _ _ _)) (LeO.refl _)

theorem side_step (step : List Int) (j m : Nat) : ((List.range j).map (fun (v : Nat) => rd step (v : Int) != -2) ++ List.replicate (m + 1) false).set j (rd step (j : Int) != -2) = (List.range (j + 1)).map (fun (v : Nat) => rd step (v : Int) != -2) ++ List.replicate m false := by
  rw [List.set_append_right _ _ (by simp), List.length_map, List.length_range, Nat.sub_self, List.replicate_succ, List.set_cons_zero, List.range_succ, List.map_append, List.append_assoc]; rfl

set_option maxHeartbeats 8000000 in
set_option maxRecDepth 100000 in
theorem codewrightref51_Max.calls (k : Nat) (a0_0 : Int) (A0_1 : Option Addr) (c0_1 : Nat) (l0_1 : List S36) (a1 a2 : Int) (r1 : Int) (r2 : List Int) (r3 : List Bool) (w : World)
    (hr0_1 : Kd.C k36 w A0_1 l0_1.length l0_1) (hc0_1 : l0_1.length ≤ c0_1)
    (h : codewrightref51_Max.f k a0_0 l0_1 a1 a2 = some (r1, r2, r3)) :
    Calls Try.prog 28 #[.agg #[.int .i64 a0_0, .slice A0_1 l0_1.length c0_1], .int .i64 a1, .int .i64 a2] w fun e w' => ∃ v1_ v2_ : Value, e = .returned (.agg #[.int .i64 r1, v1_, v2_]) ∧ Kd.R (Kd.int .i64) 3 w' w.heap.size (fun _ => True) v1_ r2 ∧ Kd.R Kd.bool 4 w' w.heap.size (fun _ => True) v2_ r3 ∧ Below w.heap.size w w' := by
  have hu24 := Try.underlying24
  have hu36 := Try.underlying36
  have hu39 := Try.underlying39
  have HR0 := Aside0.mk hr0_1
  clear hr0_1
  unfold codewrightref51_Max.f at h
  split at h
  · rename_i hs
    obtain ⟨hn0, hn, hln⟩ := hs
    obtain ⟨n, rfl⟩ : ∃ n : Nat, a0_0 = (n : Int) := ⟨a0_0.toNat, by omega⟩
    obtain ⟨step0, hst, hmain⟩ := Option.bind_eq_some_iff.1 h
    have HS0 := Aside0.mk hst
    have HM := Aside0.mk hmain
    clear h hst hmain
    have HL := Aside0.mk (Live.nil w)
    go_enter Try.func28, Try.ntmps28
    go_upto_region 1 with (first
      | ((with_reducible refine gate_dst (N := 3) rfl ?_); refine ev_new HL #[.int .i64 (n : Int), .slice A0_1 l0_1.length c0_1] 24 rfl 3 rfl ?hr ?_; (case hr => first | (go_simp; done) | (go_simp; rfl)); intro g3 w1 G3 HL1; clear HL; have HL := HL1; clear HL1)
      | ((with_reducible refine gate_dst (N := 6) rfl ?_); refine ev_new HL #[.int .i64 0, .slice none 0 0, .slice none 0 0] 39 rfl 6 rfl ?hr ?_; (case hr => first | (go_simp; done) | (go_simp; rfl)); intro g6 w2 G6 HL1; clear HL; have HL := HL1; clear HL1)
      )
    replace HL := Aside0.mk (((HL.out.add (Below.refl _ _) Emp trivial).add (Below.refl _ _) Emp trivial).add (Below.refl _ _) Emp trivial)
    refine start_ (n := 10) (S := fun w' => w'.cell? ⟨g3, 0, none⟩ = some (.int .i64 (n : Int)) ∧ w'.cell? ⟨g3, 1, none⟩ = some (.slice A0_1 l0_1.length c0_1)) (ds := []) #[false, false, false, false, false, false, false, false, false, false] (by kernel_rfl) rfl rfl ⟨(HL.out.box_cell (i := 0) rfl 0).trans rfl, (HL.out.box_cell (i := 0) rfl 1).trans rfl⟩ (fun hHeld => ?_); refine with_tabW tab28_1 bits28_1 (fun HT_ HW_ => ?_)
    replace HL := HL.out.drew; generalize w2.drew = wd_ at HL hHeld ⊢
    refine pure_ (i := 0) (N := some 16) (v := ?_) (a' := ?_) #[true, false, false, false, false, false, false, false, false, false] rfl rfl (any_of HT_.out (by kernel_rfl)) (fun _ _ _ h => h) (Or.inl ⟨by rfl, ?_⟩) ?_ ?_; (rotate_left; · intro w'; go_simp; with_reducible rfl); (rotate_left; · simp only [Act.put, List.setIfInBounds_toArray, List.set_cons_zero, List.set_cons_succ, i64_w, i32_w]; rfl)
    refine pure_ (i := 4) (N := some 20) (v := ?_) (a' := ?_) #[true, false, false, false, true, false, false, false, false, false] rfl rfl (any_of HT_.out (by kernel_rfl)) (fun _ _ _ h => h) (Or.inl ⟨by rfl, ?_⟩) ?_ ?_; (rotate_left; · intro w'; go_simp; with_reducible rfl); (rotate_left; · simp only [Act.put, List.setIfInBounds_toArray, List.set_cons_zero, List.set_cons_succ, i64_w, i32_w]; rfl)
    refine take_ (i := 1) (N := some 17) (v := ?_) (a' := ?_) #[true, true, false, false, true, false, false, false, false, false] rfl rfl (take_ofW HT_.out HW_.out (by kernel_rfl)) (fun _ _ _ h => h) (Or.inl ⟨by rfl, ?_⟩) hHeld ?_ ?_; (rotate_left; · rintro w' ⟨s0, s1⟩; go_simp; with_reducible rfl); (rotate_left; · simp only [Act.put, List.setIfInBounds_toArray, List.set_cons_zero, List.set_cons_succ, i64_w, i32_w]; rfl)
    refine take_ (i := 5) (N := some 21) (v := ?_) (a' := ?_) #[true, true, false, false, true, true, false, false, false, false] rfl rfl (take_ofW HT_.out HW_.out (by kernel_rfl)) (fun _ _ _ h => h) (Or.inl ⟨by rfl, ?_⟩) hHeld ?_ ?_; (rotate_left; · rintro w' ⟨s0, s1⟩; go_simp; with_reducible rfl); (rotate_left; · simp only [Act.put, List.setIfInBounds_toArray, List.set_cons_zero, List.set_cons_succ, i64_w, i32_w]; rfl)
    refine pure_ (i := 2) (N := some 18) (v := ?_) (a' := ?_) #[true, true, true, false, true, true, false, false, false, false] rfl rfl (any_of HT_.out (by kernel_rfl)) (fun _ _ _ h => h) (Or.inl ⟨by rfl, ?_⟩) ?_ ?_; (rotate_left; · intro w'; go_simp; with_reducible rfl); (rotate_left; · simp only [Act.put, List.setIfInBounds_toArray, List.set_cons_zero, List.set_cons_succ, i64_w, i32_w]; rfl)
    refine join_ (σ := Value × Value × Nat) 1 #[true, true, true, true, true, true, true, true, true, false] (fun s_ => [(19, s_.1), (22, s_.2.1), (7, .pointer (some ⟨s_.2.2, 0, none⟩)), (23, .agg #[.int .i64 0, s_.1, s_.2.1])]) (fun s_ w' => Live w w' [Box g3 #[.int .i64 (n : Int), .slice A0_1 l0_1.length c0_1] 24, Box g6 #[.int .i64 0, .slice none 0 0, .slice none 0 0] 39, Row w.heap.size (Kd.int .i64) 3 s_.1 (List.replicate l0_1.length 0), Row w.heap.size Kd.bool 4 s_.2.1 (List.replicate n false), Box s_.2.2 #[.int .i64 0, .slice none 0 0, .slice none 0 0] 39] ∧ w.heap.size ≤ s_.2.2) ?_ ?_
    rotate_left
    · intro hJABC
      refine join_ (σ := Value × Value) 3 #[true, true, true, true, true, true, true, false, false, false] (fun s_ => [(19, s_.1), (22, s_.2)]) (fun s_ w' => Live w w' [Box g3 #[.int .i64 (n : Int), .slice A0_1 l0_1.length c0_1] 24, Box g6 #[.int .i64 0, .slice none 0 0, .slice none 0 0] 39, Row w.heap.size (Kd.int .i64) 3 s_.1 (List.replicate l0_1.length 0), Row w.heap.size Kd.bool 4 s_.2 (List.replicate n false), Emp]) ?_ ?_
      rotate_left
      · intro hJAB
        refine join_ (σ := Value × Nat) 3 #[true, true, true, true, true, true, false, false, true, false] (fun s_ => [(19, s_.1), (7, .pointer (some ⟨s_.2, 0, none⟩))]) (fun s_ w' => Live w w' [Box g3 #[.int .i64 (n : Int), .slice A0_1 l0_1.length c0_1] 24, Box g6 #[.int .i64 0, .slice none 0 0, .slice none 0 0] 39, Row w.heap.size (Kd.int .i64) 3 s_.1 (List.replicate l0_1.length 0), Emp, Box s_.2 #[.int .i64 0, .slice none 0 0, .slice none 0 0] 39] ∧ w.heap.size ≤ s_.2) ?_ ?_
        rotate_left
        · intro hJAC
          refine join_ (σ := Value × Nat) 3 #[true, true, true, false, true, true, true, false, true, false] (fun s_ => [(22, s_.1), (7, .pointer (some ⟨s_.2, 0, none⟩))]) (fun s_ w' => Live w w' [Box g3 #[.int .i64 (n : Int), .slice A0_1 l0_1.length c0_1] 24, Box g6 #[.int .i64 0, .slice none 0 0, .slice none 0 0] 39, Emp, Row w.heap.size Kd.bool 4 s_.1 (List.replicate n false), Box s_.2 #[.int .i64 0, .slice none 0 0, .slice none 0 0] 39] ∧ w.heap.size ≤ s_.2) ?_ ?_
          rotate_left
          · intro hJBC
            refine join_ (σ := Value) 4 #[true, true, true, true, true, true, false, false, false, false] (fun s_ => [(19, s_)]) (fun s_ w' => Live w w' [Box g3 #[.int .i64 (n : Int), .slice A0_1 l0_1.length c0_1] 24, Box g6 #[.int .i64 0, .slice none 0 0, .slice none 0 0] 39, Row w.heap.size (Kd.int .i64) 3 s_ (List.replicate l0_1.length 0), Emp, Emp]) ?_ ?_
            rotate_left
            · intro hJA
              refine join_ (σ := Value) 4 #[true, true, true, false, true, true, true, false, false, false] (fun s_ => [(22, s_)]) (fun s_ w' => Live w w' [Box g3 #[.int .i64 (n : Int), .slice A0_1 l0_1.length c0_1] 24, Box g6 #[.int .i64 0, .slice none 0 0, .slice none 0 0] 39, Emp, Row w.heap.size Kd.bool 4 s_ (List.replicate n false), Emp]) ?_ ?_
              rotate_left
              · intro hJB
                refine join_ (σ := Nat) 4 #[true, true, true, false, true, true, false, false, true, false] (fun s_ => [(7, .pointer (some ⟨s_, 0, none⟩))]) (fun s_ w' => Live w w' [Box g3 #[.int .i64 (n : Int), .slice A0_1 l0_1.length c0_1] 24, Box g6 #[.int .i64 0, .slice none 0 0, .slice none 0 0] 39, Emp, Emp, Box s_ #[.int .i64 0, .slice none 0 0, .slice none 0 0] 39] ∧ w.heap.size ≤ s_) ?_ ?_
                rotate_left
                · intro hJC
                  refine three_ (i := 3) (j := 6) (k := 8) (Ni := some 19) (Nj := some 22) (Nk := some 7) #[true, true, true, true, true, true, false, false, false, false] #[true, true, true, false, true, true, true, false, false, false] #[true, true, true, false, true, true, false, false, true, false] rfl rfl rfl rfl rfl rfl (three_of HT_.out (by kernel_rfl)) (by decide) (by decide) (by decide) (fun K hK => ?_) (fun K hK => ?_) (fun K hK => ?_)
                  · skip
                    refine Kd.R_make_step (Kd.int .i64) _ 3 (by rfl) (N := 19) rfl 33 _ _ rfl (l0_1.length : Int) rfl rfl Try.underlying33 (.int .i64 0) 8 hi3 rfl (by decide) (by decide) 0 (ok := fun _ => True) (okp := fun _ => True) rfl (fun _ hk => hk) trivial (by omega) (by omega) (Below.refl _ _) (Nat.le_refl _) ?_; intro vA wA ho hb _ _; have HL2 := HL.fill_row (i := 2) rfl ho hb; clear ho hb
                    refine hK.out _ _ ⟨(HL2.box_cell (i := 0) rfl 0).trans rfl, (HL2.box_cell (i := 0) rfl 1).trans rfl⟩ (fun hHeld => ?_); clear hK K
                    refine norm_ (a' := ?_) ?_ ?_; (rotate_left; · show Act.put _ (some 19) _ = _; simp only [Act.put, List.setIfInBounds_toArray, List.set_cons_zero, List.set_cons_succ, i64_w, i32_w]; rfl)
                    exact norm_ (by first | (simp only [putAll, Act.put, List.setIfInBounds_toArray, List.set_cons_zero, List.set_cons_succ]; done) | (simp only [putAll, Act.put, List.setIfInBounds_toArray, List.set_cons_zero, List.set_cons_succ]; rfl)) (hJA (_) _ HL2)
                  · skip
                    refine Kd.R_make_step Kd.bool _ 4 (by rfl) (N := 22) rfl 28 _ _ rfl (n : Int) rfl rfl Try.underlying28 (.bool false) 1 hi4 rfl (by decide) (by decide) false (ok := fun _ => True) (okp := fun _ => True) rfl (fun _ hk => hk) trivial (by omega) (by omega) (Below.refl _ _) (Nat.le_refl _) ?_; intro vB wB ho hb _ _; have HL2 := HL.fill_row (i := 3) rfl ho hb; clear ho hb
                    refine hK.out _ _ ⟨(HL2.box_cell (i := 0) rfl 0).trans rfl, (HL2.box_cell (i := 0) rfl 1).trans rfl⟩ (fun hHeld => ?_); clear hK K
                    refine norm_ (a' := ?_) ?_ ?_; (rotate_left; · show Act.put _ (some 22) _ = _; simp only [Act.put, List.setIfInBounds_toArray, List.set_cons_zero, List.set_cons_succ, i64_w, i32_w]; rfl)
                    exact norm_ (by first | (simp only [putAll, Act.put, List.setIfInBounds_toArray, List.set_cons_zero, List.set_cons_succ]; done) | (simp only [putAll, Act.put, List.setIfInBounds_toArray, List.set_cons_zero, List.set_cons_succ]; rfl)) (hJB (_) _ HL2)
                  · skip
                    refine value_ (w1 := ?_) (v := ?_) (by rfl) rfl ?_ ?_; (rotate_left 2; · (go_simp; (constructor <;> rfl)))
                    have HL2 := HL.fill_box (i := 4) rfl #[.int .i64 0, .slice none 0 0, .slice none 0 0] 39
                    refine hK.out _ _ ⟨(HL2.box_cell (i := 0) rfl 0).trans rfl, (HL2.box_cell (i := 0) rfl 1).trans rfl⟩ (fun hHeld => ?_); clear hK K
                    refine norm_ (a' := ?_) ?_ ?_; (rotate_left; · show Act.put _ (some 7) _ = _; simp only [Act.put, List.setIfInBounds_toArray, List.set_cons_zero, List.set_cons_succ, i64_w, i32_w]; rfl)
                    exact norm_ (by first | (simp only [putAll, Act.put, List.setIfInBounds_toArray, List.set_cons_zero, List.set_cons_succ]; done) | (simp only [putAll, Act.put, List.setIfInBounds_toArray, List.set_cons_zero, List.set_cons_succ]; rfl)) (hJC (_) _ ⟨HL2, HL.size⟩)
                clear HL hHeld; rintro gC wj ⟨HL, GC⟩
                refine norm_ (a' := ?_) ?_ ?_; (rotate_left; · simp only [putAll, Act.put, List.setIfInBounds_toArray, List.set_cons_zero, List.set_cons_succ]; rfl)
                refine two_ (i := 3) (j := 6) (Ni := some 19) (Nj := some 22) #[true, true, true, true, true, true, false, false, true, false] #[true, true, true, false, true, true, true, false, true, false] rfl rfl rfl rfl (two_of HT_.out (by kernel_rfl)) (by decide) (by decide) (fun K hK => ?_) (fun K hK => ?_)
                · skip
                  refine Kd.R_make_step (Kd.int .i64) _ 3 (by rfl) (N := 19) rfl 33 _ _ rfl (l0_1.length : Int) rfl rfl Try.underlying33 (.int .i64 0) 8 hi3 rfl (by decide) (by decide) 0 (ok := fun _ => True) (okp := fun _ => True) rfl (fun _ hk => hk) trivial (by omega) (by omega) (Below.refl _ _) (Nat.le_refl _) ?_; intro vA wA ho hb _ _; have HL2 := HL.fill_row (i := 2) rfl ho hb; clear ho hb
                  refine hK.out _ _ ⟨(HL2.box_cell (i := 0) rfl 0).trans rfl, (HL2.box_cell (i := 0) rfl 1).trans rfl⟩ (fun hHeld => ?_); clear hK K
                  refine norm_ (a' := ?_) ?_ ?_; (rotate_left; · show Act.put _ (some 19) _ = _; simp only [Act.put, List.setIfInBounds_toArray, List.set_cons_zero, List.set_cons_succ, i64_w, i32_w]; rfl)
                  exact norm_ (by first | (simp only [putAll, Act.put, List.setIfInBounds_toArray, List.set_cons_zero, List.set_cons_succ]; done) | (simp only [putAll, Act.put, List.setIfInBounds_toArray, List.set_cons_zero, List.set_cons_succ]; rfl)) (hJAC (⟨_, _⟩) _ ⟨HL2, GC⟩)
                · skip
                  refine Kd.R_make_step Kd.bool _ 4 (by rfl) (N := 22) rfl 28 _ _ rfl (n : Int) rfl rfl Try.underlying28 (.bool false) 1 hi4 rfl (by decide) (by decide) false (ok := fun _ => True) (okp := fun _ => True) rfl (fun _ hk => hk) trivial (by omega) (by omega) (Below.refl _ _) (Nat.le_refl _) ?_; intro vB wB ho hb _ _; have HL2 := HL.fill_row (i := 3) rfl ho hb; clear ho hb
                  refine hK.out _ _ ⟨(HL2.box_cell (i := 0) rfl 0).trans rfl, (HL2.box_cell (i := 0) rfl 1).trans rfl⟩ (fun hHeld => ?_); clear hK K
                  refine norm_ (a' := ?_) ?_ ?_; (rotate_left; · show Act.put _ (some 22) _ = _; simp only [Act.put, List.setIfInBounds_toArray, List.set_cons_zero, List.set_cons_succ, i64_w, i32_w]; rfl)
                  exact norm_ (by first | (simp only [putAll, Act.put, List.setIfInBounds_toArray, List.set_cons_zero, List.set_cons_succ]; done) | (simp only [putAll, Act.put, List.setIfInBounds_toArray, List.set_cons_zero, List.set_cons_succ]; rfl)) (hJBC (⟨_, _⟩) _ ⟨HL2, GC⟩)
              clear HL hHeld; rintro vB wj HL
              refine norm_ (a' := ?_) ?_ ?_; (rotate_left; · simp only [putAll, Act.put, List.setIfInBounds_toArray, List.set_cons_zero, List.set_cons_succ]; rfl)
              refine two_ (i := 3) (j := 8) (Ni := some 19) (Nj := some 7) #[true, true, true, true, true, true, true, false, false, false] #[true, true, true, false, true, true, true, false, true, false] rfl rfl rfl rfl (two_of HT_.out (by kernel_rfl)) (by decide) (by decide) (fun K hK => ?_) (fun K hK => ?_)
              · skip
                refine Kd.R_make_step (Kd.int .i64) _ 3 (by rfl) (N := 19) rfl 33 _ _ rfl (l0_1.length : Int) rfl rfl Try.underlying33 (.int .i64 0) 8 hi3 rfl (by decide) (by decide) 0 (ok := fun _ => True) (okp := fun _ => True) rfl (fun _ hk => hk) trivial (by omega) (by omega) (Below.refl _ _) (Nat.le_refl _) ?_; intro vA wA ho hb _ _; have HL2 := HL.fill_row (i := 2) rfl ho hb; clear ho hb
                refine hK.out _ _ ⟨(HL2.box_cell (i := 0) rfl 0).trans rfl, (HL2.box_cell (i := 0) rfl 1).trans rfl⟩ (fun hHeld => ?_); clear hK K
                refine norm_ (a' := ?_) ?_ ?_; (rotate_left; · show Act.put _ (some 19) _ = _; simp only [Act.put, List.setIfInBounds_toArray, List.set_cons_zero, List.set_cons_succ, i64_w, i32_w]; rfl)
                exact norm_ (by first | (simp only [putAll, Act.put, List.setIfInBounds_toArray, List.set_cons_zero, List.set_cons_succ]; done) | (simp only [putAll, Act.put, List.setIfInBounds_toArray, List.set_cons_zero, List.set_cons_succ]; rfl)) (hJAB (⟨_, _⟩) _ HL2)
              · skip
                refine value_ (w1 := ?_) (v := ?_) (by rfl) rfl ?_ ?_; (rotate_left 2; · (go_simp; (constructor <;> rfl)))
                have HL2 := HL.fill_box (i := 4) rfl #[.int .i64 0, .slice none 0 0, .slice none 0 0] 39
                refine hK.out _ _ ⟨(HL2.box_cell (i := 0) rfl 0).trans rfl, (HL2.box_cell (i := 0) rfl 1).trans rfl⟩ (fun hHeld => ?_); clear hK K
                refine norm_ (a' := ?_) ?_ ?_; (rotate_left; · show Act.put _ (some 7) _ = _; simp only [Act.put, List.setIfInBounds_toArray, List.set_cons_zero, List.set_cons_succ, i64_w, i32_w]; rfl)
                exact norm_ (by first | (simp only [putAll, Act.put, List.setIfInBounds_toArray, List.set_cons_zero, List.set_cons_succ]; done) | (simp only [putAll, Act.put, List.setIfInBounds_toArray, List.set_cons_zero, List.set_cons_succ]; rfl)) (hJBC (⟨_, _⟩) _ ⟨HL2, HL.size⟩)
            clear HL hHeld; rintro vA wj HL
            refine norm_ (a' := ?_) ?_ ?_; (rotate_left; · simp only [putAll, Act.put, List.setIfInBounds_toArray, List.set_cons_zero, List.set_cons_succ]; rfl)
            refine two_ (i := 6) (j := 8) (Ni := some 22) (Nj := some 7) #[true, true, true, true, true, true, true, false, false, false] #[true, true, true, true, true, true, false, false, true, false] rfl rfl rfl rfl (two_of HT_.out (by kernel_rfl)) (by decide) (by decide) (fun K hK => ?_) (fun K hK => ?_)
            · skip
              refine Kd.R_make_step Kd.bool _ 4 (by rfl) (N := 22) rfl 28 _ _ rfl (n : Int) rfl rfl Try.underlying28 (.bool false) 1 hi4 rfl (by decide) (by decide) false (ok := fun _ => True) (okp := fun _ => True) rfl (fun _ hk => hk) trivial (by omega) (by omega) (Below.refl _ _) (Nat.le_refl _) ?_; intro vB wB ho hb _ _; have HL2 := HL.fill_row (i := 3) rfl ho hb; clear ho hb
              refine hK.out _ _ ⟨(HL2.box_cell (i := 0) rfl 0).trans rfl, (HL2.box_cell (i := 0) rfl 1).trans rfl⟩ (fun hHeld => ?_); clear hK K
              refine norm_ (a' := ?_) ?_ ?_; (rotate_left; · show Act.put _ (some 22) _ = _; simp only [Act.put, List.setIfInBounds_toArray, List.set_cons_zero, List.set_cons_succ, i64_w, i32_w]; rfl)
              exact norm_ (by first | (simp only [putAll, Act.put, List.setIfInBounds_toArray, List.set_cons_zero, List.set_cons_succ]; done) | (simp only [putAll, Act.put, List.setIfInBounds_toArray, List.set_cons_zero, List.set_cons_succ]; rfl)) (hJAB (⟨_, _⟩) _ HL2)
            · skip
              refine value_ (w1 := ?_) (v := ?_) (by rfl) rfl ?_ ?_; (rotate_left 2; · (go_simp; (constructor <;> rfl)))
              have HL2 := HL.fill_box (i := 4) rfl #[.int .i64 0, .slice none 0 0, .slice none 0 0] 39
              refine hK.out _ _ ⟨(HL2.box_cell (i := 0) rfl 0).trans rfl, (HL2.box_cell (i := 0) rfl 1).trans rfl⟩ (fun hHeld => ?_); clear hK K
              refine norm_ (a' := ?_) ?_ ?_; (rotate_left; · show Act.put _ (some 7) _ = _; simp only [Act.put, List.setIfInBounds_toArray, List.set_cons_zero, List.set_cons_succ, i64_w, i32_w]; rfl)
              exact norm_ (by first | (simp only [putAll, Act.put, List.setIfInBounds_toArray, List.set_cons_zero, List.set_cons_succ]; done) | (simp only [putAll, Act.put, List.setIfInBounds_toArray, List.set_cons_zero, List.set_cons_succ]; rfl)) (hJAC (⟨_, _⟩) _ ⟨HL2, HL.size⟩)
          clear HL hHeld; rintro ⟨vB, gC⟩ wj ⟨HL, GC⟩
          refine norm_ (a' := ?_) ?_ ?_; (rotate_left; · simp only [putAll, Act.put, List.setIfInBounds_toArray, List.set_cons_zero, List.set_cons_succ]; rfl)
          refine one_ (i := 3) (N := some 19) #[true, true, true, true, true, true, true, false, true, false] rfl rfl (one_of HT_.out (by kernel_rfl)) (by decide) (fun K hK => ?_)
          refine Kd.R_make_step (Kd.int .i64) _ 3 (by rfl) (N := 19) rfl 33 _ _ rfl (l0_1.length : Int) rfl rfl Try.underlying33 (.int .i64 0) 8 hi3 rfl (by decide) (by decide) 0 (ok := fun _ => True) (okp := fun _ => True) rfl (fun _ hk => hk) trivial (by omega) (by omega) (Below.refl _ _) (Nat.le_refl _) ?_; intro vA wA ho hb _ _; have HL2 := HL.fill_row (i := 2) rfl ho hb; clear ho hb
          refine hK.out _ _ ⟨(HL2.box_cell (i := 0) rfl 0).trans rfl, (HL2.box_cell (i := 0) rfl 1).trans rfl⟩ (fun hHeld => ?_); clear hK K
          refine norm_ (a' := ?_) ?_ ?_; (rotate_left; · show Act.put _ (some 19) _ = _; simp only [Act.put, List.setIfInBounds_toArray, List.set_cons_zero, List.set_cons_succ, i64_w, i32_w]; rfl)
          (obtain ⟨_, _, e_⟩ := Kd.R_slice (HL2.row (i := 2) rfl)); simp only [List.length_replicate, Int.toNat_natCast] at e_; subst e_; (obtain ⟨_, _, e_⟩ := Kd.R_slice (HL2.row (i := 3) rfl)); simp only [List.length_replicate, Int.toNat_natCast] at e_; subst e_
          refine pure_ (i := 7) (N := some 23) (v := ?_) (a' := ?_) #[true, true, true, true, true, true, true, true, true, false] rfl rfl (any_of HT_.out (by kernel_rfl)) (fun _ _ _ h => h) (Or.inl ⟨by rfl, ?_⟩) ?_ ?_; (rotate_left; · intro w'; go_simp; with_reducible rfl); (rotate_left; · simp only [Act.put, List.setIfInBounds_toArray, List.set_cons_zero, List.set_cons_succ, i64_w, i32_w]; rfl)
          exact norm_ (by first | (simp only [putAll, Act.put, List.setIfInBounds_toArray, List.set_cons_zero, List.set_cons_succ]; done) | (simp only [putAll, Act.put, List.setIfInBounds_toArray, List.set_cons_zero, List.set_cons_succ]; rfl)) (hJABC (⟨_, _, _⟩) _ ⟨HL2, GC⟩)
        clear HL hHeld; rintro ⟨vA, gC⟩ wj ⟨HL, GC⟩
        refine norm_ (a' := ?_) ?_ ?_; (rotate_left; · simp only [putAll, Act.put, List.setIfInBounds_toArray, List.set_cons_zero, List.set_cons_succ]; rfl)
        refine one_ (i := 6) (N := some 22) #[true, true, true, true, true, true, true, false, true, false] rfl rfl (one_of HT_.out (by kernel_rfl)) (by decide) (fun K hK => ?_)
        refine Kd.R_make_step Kd.bool _ 4 (by rfl) (N := 22) rfl 28 _ _ rfl (n : Int) rfl rfl Try.underlying28 (.bool false) 1 hi4 rfl (by decide) (by decide) false (ok := fun _ => True) (okp := fun _ => True) rfl (fun _ hk => hk) trivial (by omega) (by omega) (Below.refl _ _) (Nat.le_refl _) ?_; intro vB wB ho hb _ _; have HL2 := HL.fill_row (i := 3) rfl ho hb; clear ho hb
        refine hK.out _ _ ⟨(HL2.box_cell (i := 0) rfl 0).trans rfl, (HL2.box_cell (i := 0) rfl 1).trans rfl⟩ (fun hHeld => ?_); clear hK K
        refine norm_ (a' := ?_) ?_ ?_; (rotate_left; · show Act.put _ (some 22) _ = _; simp only [Act.put, List.setIfInBounds_toArray, List.set_cons_zero, List.set_cons_succ, i64_w, i32_w]; rfl)
        (obtain ⟨_, _, e_⟩ := Kd.R_slice (HL2.row (i := 2) rfl)); simp only [List.length_replicate, Int.toNat_natCast] at e_; subst e_; (obtain ⟨_, _, e_⟩ := Kd.R_slice (HL2.row (i := 3) rfl)); simp only [List.length_replicate, Int.toNat_natCast] at e_; subst e_
        refine pure_ (i := 7) (N := some 23) (v := ?_) (a' := ?_) #[true, true, true, true, true, true, true, true, true, false] rfl rfl (any_of HT_.out (by kernel_rfl)) (fun _ _ _ h => h) (Or.inl ⟨by rfl, ?_⟩) ?_ ?_; (rotate_left; · intro w'; go_simp; with_reducible rfl); (rotate_left; · simp only [Act.put, List.setIfInBounds_toArray, List.set_cons_zero, List.set_cons_succ, i64_w, i32_w]; rfl)
        exact norm_ (by first | (simp only [putAll, Act.put, List.setIfInBounds_toArray, List.set_cons_zero, List.set_cons_succ]; done) | (simp only [putAll, Act.put, List.setIfInBounds_toArray, List.set_cons_zero, List.set_cons_succ]; rfl)) (hJABC (⟨_, _, _⟩) _ ⟨HL2, GC⟩)
      clear HL hHeld; rintro ⟨vA, vB⟩ wj HL
      refine norm_ (a' := ?_) ?_ ?_; (rotate_left; · simp only [putAll, Act.put, List.setIfInBounds_toArray, List.set_cons_zero, List.set_cons_succ]; rfl)
      (obtain ⟨_, _, e_⟩ := Kd.R_slice (HL.row (i := 2) rfl)); simp only [List.length_replicate, Int.toNat_natCast] at e_; subst e_; (obtain ⟨_, _, e_⟩ := Kd.R_slice (HL.row (i := 3) rfl)); simp only [List.length_replicate, Int.toNat_natCast] at e_; subst e_
      refine pure_ (i := 7) (N := some 23) (v := ?_) (a' := ?_) #[true, true, true, true, true, true, true, true, false, false] rfl rfl (any_of HT_.out (by kernel_rfl)) (fun _ _ _ h => h) (Or.inl ⟨by rfl, ?_⟩) ?_ ?_; (rotate_left; · intro w'; go_simp; with_reducible rfl); (rotate_left; · simp only [Act.put, List.setIfInBounds_toArray, List.set_cons_zero, List.set_cons_succ, i64_w, i32_w]; rfl)
      refine one_ (i := 8) (N := some 7) #[true, true, true, true, true, true, true, true, true, false] rfl rfl (one_of HT_.out (by kernel_rfl)) (by decide) (fun K hK => ?_)
      refine value_ (w1 := ?_) (v := ?_) (by rfl) rfl ?_ ?_; (rotate_left 2; · (go_simp; (constructor <;> rfl)))
      have HL2 := HL.fill_box (i := 4) rfl #[.int .i64 0, .slice none 0 0, .slice none 0 0] 39
      refine hK.out _ _ ⟨(HL2.box_cell (i := 0) rfl 0).trans rfl, (HL2.box_cell (i := 0) rfl 1).trans rfl⟩ (fun hHeld => ?_); clear hK K
      refine norm_ (a' := ?_) ?_ ?_; (rotate_left; · show Act.put _ (some 7) _ = _; simp only [Act.put, List.setIfInBounds_toArray, List.set_cons_zero, List.set_cons_succ, i64_w, i32_w]; rfl)
      exact norm_ (by first | (simp only [putAll, Act.put, List.setIfInBounds_toArray, List.set_cons_zero, List.set_cons_succ]; done) | (simp only [putAll, Act.put, List.setIfInBounds_toArray, List.set_cons_zero, List.set_cons_succ]; rfl)) (hJABC (⟨_, _, _⟩) _ ⟨HL2, HL.size⟩)
    clear HL hHeld; rintro ⟨vA, vB, gC⟩ wj ⟨HL, GC⟩
    refine norm_ (a' := ?_) ?_ ?_; (rotate_left; · simp only [putAll, Act.put, List.setIfInBounds_toArray, List.set_cons_zero, List.set_cons_succ]; rfl)
    obtain ⟨A19, c19, e_⟩ := Kd.R_slice (HL.row (i := 2) rfl)
    rw [List.length_replicate] at e_
    subst e_
    obtain ⟨g22, c22, e_, -, -, -⟩ := Kd.R_form (HL.row (i := 3) rfl) (by simp; omega)
    rw [List.length_replicate] at e_
    subst e_
    have f7 := HL.box_fz (i := 4) rfl
    have b7 := HL.box_cell (i := 4) rfl
    refine one_ (i := 9) (N := none) #[true, true, true, true, true, true, true, true, true, true] rfl rfl (one_of HT_.out (by kernel_rfl)) (by decide) (fun K hK => ?_)
    refine skip_ (w1 := ((wj.setCell ⟨gC, 0, none⟩ (.int .i64 0)).setCell ⟨gC, 1, none⟩ (.slice A19 l0_1.length c19)).setCell ⟨gC, 2, none⟩ (.slice (some ⟨g22, 0, none⟩) n c22)) (by rfl) rfl (by first | (go_simp; done) | (go_simp; rfl)) ?_
    have HL2 := ((HL.setbox (i := 4) rfl GC 0 (.int .i64 0)).setbox (i := 4) rfl GC 1 (.slice A19 l0_1.length c19)).setbox (i := 4) rfl GC 2 (.slice (some ⟨g22, 0, none⟩) n c22)
    refine hK.out _ _ ⟨(HL2.box_cell (i := 0) rfl 0).trans rfl, (HL2.box_cell (i := 0) rfl 1).trans rfl⟩ (fun hHeld => ?_); clear hK K
    clear HL f7 b7 hHeld
    have HL := Aside0.mk HL2
    clear HL2
    generalize ((wj.setCell ⟨gC, 0, none⟩ (.int .i64 0)).setCell ⟨gC, 1, none⟩ (.slice A19 l0_1.length c19)).setCell ⟨gC, 2, none⟩ (.slice (some ⟨g22, 0, none⟩) n c22) = w7 at HL ⊢
    refine done_ (done_of HT_.out (by kernel_rfl)) ?_
    clear HT_ HW_
    have b0 : w7.cell? ⟨g3, 0, none⟩ = some (.int .i64 (n : Int)) := (HL.out.box_cell (i := 0) rfl 0).trans rfl
    have b1 : w7.cell? ⟨g3, 1, none⟩ = some (.slice A0_1 l0_1.length c0_1) := (HL.out.box_cell (i := 0) rfl 1).trans rfl
    have b7 : w7.cell? ⟨gC, 1, none⟩ = some (.slice A19 l0_1.length c19) := (HL.out.box_cell (i := 4) rfl 1).trans rfl
    have HC := codewrightref51_Reach.calls k (n : Int) A0_1 c0_1 l0_1 A19 c19 (List.replicate l0_1.length 0) a1 step0 w7 (Kd.C_below HR0.out HL.out.hb) hc0_1 (Kd.R_reads' (HL.out.row (i := 2) rfl)).2.2 (by have := (Kd.R_reads' (HL.out.row (i := 2) rfl)).2.1; simpa using this) HS0.out
    rw [List.length_replicate] at HC
    have HCall := Aside0.mk HC
    clear HC HS0
    go_wp2_with ((with_reducible refine gate_callee (f := 41) rfl ?_); refine goesL_ (some 28) rfl rfl Try.func41 (by kernel_rfl) rfl #[.agg #[.int .i64 (n : Int), .slice A0_1 l0_1.length c0_1], .slice A19 l0_1.length c19, .int .i64 a1] rfl (by (try simp only [List.map_toArray, List.map_cons, List.map_nil]); first | done | rfl) ?_; refine HCall.out.mono ?_; rintro e w8 ⟨v8, rfl, ho0, hb⟩; refine ⟨_, rfl, ?_⟩; have HL1 := Aside0.mk (HL.out.add_row ho0 hb); clear HL b0 b1 b7 ho0 hb HCall; have HL := HL1; clear HL1; (obtain ⟨A8, c8, e8⟩ := Kd.R_slice (HL.out.row (i := 5) rfl)); subst e8)
    go_loopg [8] k (fun gk v8 wr => ∃ (A8 : Option Addr) (c8 : Nat) (al : List Int) (val : Int) (step : List Int), v8 = .slice A8 step.length c8 ∧ Aside0 (xMain (n : Int) l0_1 a1 a2 gk al val step = some (r1, r2, r3)) ∧ Aside0 (Live w wr [Box g3 #[.int .i64 (n : Int), .slice A0_1 l0_1.length c0_1] 24, Box g6 #[.int .i64 0, .slice none 0 0, .slice none 0 0] 39, Row w.heap.size (Kd.int .i64) 3 (.slice A19 l0_1.length c19) al, Row w.heap.size Kd.bool 4 (.slice (some ⟨g22, 0, none⟩) n c22) (List.replicate n false), Box gC #[.int .i64 val, .slice A19 l0_1.length c19, .slice (some ⟨g22, 0, none⟩) n c22] 39, Row w.heap.size (Kd.int .i64) 3 (.slice A8 step.length c8) step]))
    case atStart => exact ⟨A8, c8, _, _, step0, rfl, HM, HL⟩
    case round =>
      clear HL HM
      obtain ⟨A8, c8, al, val, step, rfl, HM, HL⟩ := hrel
      cases gk with
      | zero => exact absurd HM.out (by simp [xMain])
      | succ g1 =>
        have h1 := HM.out
        clear HM
        simp only [xMain] at h1
        split at h1
        · rename_i ht
          obtain ⟨ht0, ht1, ht2⟩ := ht
          obtain ⟨t, rfl⟩ : ∃ m : Nat, a2 = (m : Int) := ⟨a2.toNat, by omega⟩
          obtain ⟨ad, ea, xt⟩ := Kd.at_int (Kd.R_reads' (HL.out.row (i := 5) rfl)).2.2 (t : Int) (by omega) ht1
          subst ea
          rw [show ((t : Int)).toNat = t from rfl] at xt
          split at h1
          · rename_i hz
            rw [hz] at xt
            simp only [Option.some.injEq, Prod.mk.injEq] at h1
            obtain ⟨rfl, rfl, h3⟩ := h1
            have HX := Aside0.mk h3
            clear h3
            go_wp2
            go_loopg [15] n (fun gk v15 wr => ∃ j : Nat, v15 = .int .i64 (j : Int) ∧ Aside0 (n = j + gk) ∧ Aside0 (Live w wr [Box g3 #[.int .i64 (n : Int), .slice A0_1 l0_1.length c0_1] 24, Box g6 #[.int .i64 0, .slice none 0 0, .slice none 0 0] 39, Row w.heap.size (Kd.int .i64) 3 (.slice A19 l0_1.length c19) al, Row w.heap.size Kd.bool 4 (.slice (some ⟨g22, 0, none⟩) n c22) ((List.range j).map (fun (v : Nat) => rd step (v : Int) != -2) ++ List.replicate gk false), Box gC #[.int .i64 val, .slice A19 l0_1.length c19, .slice (some ⟨g22, 0, none⟩) n c22] 39, Row w.heap.size (Kd.int .i64) 3 (.slice (some ad) step.length c8) step]))
            case atStart => exact ⟨0, rfl, ⟨by omega⟩, HL⟩
            case round =>
              clear HL xt
              obtain ⟨j, rfl, HK, HL⟩ := hrel
              have b0 : wr.cell? ⟨g3, 0, none⟩ = some (.int .i64 (n : Int)) := (HL.out.box_cell (i := 0) rfl 0).trans rfl
              cases gk with
              | zero =>
                have hj : decide (j < n) = false := decide_eq_false (by have := HK.out; omega)
                obtain rfl : j = n := by have := HK.out; omega
                have b10 : wr.cell? ⟨gC, 0, none⟩ = some (.int .i64 val) := (HL.out.box_cell (i := 4) rfl 0).trans rfl
                have b11 : wr.cell? ⟨gC, 1, none⟩ = some (.slice A19 l0_1.length c19) := (HL.out.box_cell (i := 4) rfl 1).trans rfl
                have b12 : wr.cell? ⟨gC, 2, none⟩ = some (.slice (some ⟨g22, 0, none⟩) j c22) := (HL.out.box_cell (i := 4) rfl 2).trans rfl
                have f6 := HL.out.box_fz (i := 1) rfl
                have b6 := HL.out.box_cell (i := 1) rfl
                go_wp2_with (first
                  | ((with_reducible refine gate_store (t := 39) (p := 6) rfl ?_); refine ev_set HL (fun h => ((h.setbox (i := 1) rfl G6 0 (.int .i64 val)).setbox (i := 1) rfl G6 1 (.slice A19 l0_1.length c19)).setbox (i := 1) rfl G6 2 (.slice (some ⟨g22, 0, none⟩) j c22)) 39 6 rfl rfl rfl ?hr ?_; (case hr => first | (go_simp; done) | (go_simp; rfl)); intro w9 HL1; clear HL b10 b11 b12 f6 b6 b0; have HL := HL1; clear HL1)
                  )
                refine bodyPost_ret (results_cell_row rfl _ _ g6 39 #[.int .i64 val, .slice A19 l0_1.length c19, .slice (some ⟨g22, 0, none⟩) j c22] (0, 0) _ rfl (HL.out.box (i := 1) rfl) Try.underlying39 rfl (by kernel_rfl)) rfl ?_
                refine ⟨_, _, rfl, HL.out.row (i := 2) rfl, ?_, HL.out.hb⟩
                have h := HL.out.row (i := 3) rfl
                rw [List.replicate_zero, List.append_nil] at h
                rw [← HX.out]; exact h
              | succ g2 =>
                have hj : decide (j < n) = true := decide_eq_true (by have := HK.out; omega)
                have hjn : (j : Int) < (n : Int) := by have := HK.out; omega
                have hjb : j + 1 < 9223372036854775808 := by omega
                obtain ⟨ad8, e8, xs⟩ := Kd.at_int (Kd.R_reads' (HL.out.row (i := 5) rfl)).2.2 (j : Int) (by omega) (by omega)
                obtain rfl := Option.some.inj e8
                obtain ⟨x22, f22⟩ := Kd.R_celln false (HL.out.row (i := 3) rfl) (j : Int) (by omega) hjn
                rw [show ((j : Int)).toNat = j from rfl] at x22 f22 xs
                have hjs : (j : Int) < (step.length : Int) := by omega
                have b12 : wr.cell? ⟨gC, 2, none⟩ = some (.slice (some ⟨g22, 0, none⟩) n c22) := (HL.out.box_cell (i := 4) rfl 2).trans rfl
                go_upto_region 25 with (fail)
                go_region
                have HL3 := Aside0.mk (show Live w ((wr.setCell ⟨g22, j, none⟩ (.bool (rd step (j : Int) != -2))).drew) _ from (HL.out.put (i := 3) (enc := Value.bool) rfl (j : Int) (rd step (j : Int) != -2)).drew)
                clear HL b0 b12 x22 f22 xs
                have HL := HL3
                clear HL3
                generalize ((wr.setCell ⟨g22, j, none⟩ (.bool (rd step (j : Int) != -2))).drew) = wd at HL ⊢
                go_wp2
                go_roundg g2
                case measure => omega
                case rel => exact ⟨j + 1, by go_num, ⟨by have := HK.out; omega⟩, ⟨by have h := HL.out; rw [show ((j : Int)).toNat = j from rfl, side_step] at h; exact h⟩⟩
          · rename_i hz
            have hz' : (rd step (t : Int) != -2) = true := bne_iff_ne.2 hz
            obtain ⟨p, hp, h2⟩ := Option.bind_eq_some_iff.1 h1
            obtain ⟨m0, hm0, h3⟩ := Option.bind_eq_some_iff.1 h2
            obtain ⟨al2, hal2, h4⟩ := Option.bind_eq_some_iff.1 h3
            obtain ⟨step2, hst2, h5⟩ := Option.bind_eq_some_iff.1 h4
            have HP := Aside0.mk hp
            have HAm := Aside0.mk hm0
            have HAp := Aside0.mk hal2
            have HS2 := Aside0.mk hst2
            have HM := Aside0.mk h5
            clear h1 h2 h3 h4 h5 hp hm0 hal2 hst2
            have b0 : wr.cell? ⟨g3, 0, none⟩ = some (.int .i64 (n : Int)) := (HL.out.box_cell (i := 0) rfl 0).trans rfl
            have b1 : wr.cell? ⟨g3, 1, none⟩ = some (.slice A0_1 l0_1.length c0_1) := (HL.out.box_cell (i := 0) rfl 1).trans rfl
            have HCall := Aside0.mk (codewrightref51_path.calls g1 (n : Int) A0_1 c0_1 l0_1 (some ad) c8 step (t : Int) p wr (Kd.C_below HR0.out HL.out.hb) hc0_1 (Kd.R_reads' (HL.out.row (i := 5) rfl)).2.2 (by have := (Kd.R_reads' (HL.out.row (i := 5) rfl)).2.1; simpa using this) HP.out)
            go_wp2_with ((with_reducible refine gate_callee (f := 42) rfl ?_); refine goesL_ (some 37) rfl rfl Try.func42 (by kernel_rfl) rfl #[.agg #[.int .i64 (n : Int), .slice A0_1 l0_1.length c0_1], .slice (some ad) step.length c8, .int .i64 (t : Int)] rfl (by (try simp only [List.map_toArray, List.map_cons, List.map_nil]); first | done | rfl) ?_; refine HCall.out.mono ?_; rintro e w8 ⟨v9, rfl, ho0, hb⟩; refine ⟨_, rfl, ?_⟩; have HL1 := Aside0.mk (HL.out.add_row ho0 hb); clear HL b0 b1 ho0 hb HCall xt hz hz' HP; have HL := HL1; clear HL1; (obtain ⟨A9, c9, e9⟩ := Kd.R_slice (HL.out.row (i := 6) rfl)); subst e9)
            go_loopg [10, 11] p.length (fun gk v10 v11 wr => ∃ (j : Nat) (m : Int), v10 = .int .i64 m ∧ v11 = .int .i64 (j : Int) ∧ Aside0 (p.length = j + gk) ∧ Aside0 (xAmt l0_1 al (p.drop j) m = some m0) ∧ Aside0 (Live w wr ([Box g3 #[.int .i64 (n : Int), .slice A0_1 l0_1.length c0_1] 24, Box g6 #[.int .i64 0, .slice none 0 0, .slice none 0 0] 39, Row w.heap.size (Kd.int .i64) 3 (.slice A19 l0_1.length c19) al, Row w.heap.size Kd.bool 4 (.slice (some ⟨g22, 0, none⟩) n c22) (List.replicate n false), Box gC #[.int .i64 val, .slice A19 l0_1.length c19, .slice (some ⟨g22, 0, none⟩) n c22] 39, Row w.heap.size (Kd.int .i64) 3 (.slice (some ad) step.length c8) step] ++ [Row w.heap.size (Kd.int .i64) 3 (.slice A9 p.length c9) p])))
            case atStart => exact ⟨0, _, rfl, rfl, ⟨by omega⟩, HAm, HL⟩
            case round =>
              clear HL HAm
              obtain ⟨j, m, rfl, rfl, HK, HAm, HL⟩ := hrel
              cases gk with
              | zero =>
                have hj : decide (j < p.length) = false := decide_eq_false (by have := HK.out; omega)
                have hfin : m = m0 := by
                  have h1 := HAm.out
                  rw [List.drop_of_length_le (by have := HK.out; omega)] at h1
                  exact Option.some.inj h1
                subst hfin
                clear HAm HK
                go_wp2
                go_loopg [14] p.length (fun gk v14 wr => ∃ (j : Nat) (al1 : List Int), v14 = .int .i64 (j : Int) ∧ Aside0 (p.length = j + gk) ∧ Aside0 (xApp m (p.drop j) al1 = some al2) ∧ Aside0 (Live w wr ([Box g3 #[.int .i64 (n : Int), .slice A0_1 l0_1.length c0_1] 24, Box g6 #[.int .i64 0, .slice none 0 0, .slice none 0 0] 39, Row w.heap.size (Kd.int .i64) 3 (.slice A19 l0_1.length c19) al1, Row w.heap.size Kd.bool 4 (.slice (some ⟨g22, 0, none⟩) n c22) (List.replicate n false), Box gC #[.int .i64 val, .slice A19 l0_1.length c19, .slice (some ⟨g22, 0, none⟩) n c22] 39, Row w.heap.size (Kd.int .i64) 3 (.slice (some ad) step.length c8) step] ++ [Row w.heap.size (Kd.int .i64) 3 (.slice A9 p.length c9) p])))
                case atStart => exact ⟨0, al, rfl, ⟨by omega⟩, HAp, HL⟩
                case round =>
                  clear HL HAp hj
                  obtain ⟨j, al1, rfl, HK, HAp, HL⟩ := hrel
                  cases gk with
                  | zero =>
                    have hj : decide (j < p.length) = false := decide_eq_false (by have := HK.out; omega)
                    have hfin : al1 = al2 := by
                      have h1 := HAp.out
                      rw [List.drop_of_length_le (by have := HK.out; omega)] at h1
                      exact Option.some.inj h1
                    subst hfin
                    clear HAp HK
                    have f7 := HL.out.box_fz (i := 4) rfl
                    have b7 : wr.cell? ⟨gC, 0, none⟩ = some (.int .i64 val) := (HL.out.box_cell (i := 4) rfl 0).trans rfl
                    go_upto_region 21 with (first
                      | ((with_reducible refine gate_store (t := 3) (p := 115) rfl ?_); refine ev_set HL (fun h => h.setbox (i := 4) rfl GC 0 (.int .i64 (wrap64 (val + m)))) 3 115 rfl rfl rfl ?hr ?_; (case hr => first | (go_simp; done) | (go_simp; rfl)); intro w10 HL1; clear HL f7 b7; have HL := HL1; clear HL1)
                      )
                    have HL1 : Live w w10 [Box g3 #[.int .i64 (n : Int), .slice A0_1 l0_1.length c0_1] 24, Box g6 #[.int .i64 0, .slice none 0 0, .slice none 0 0] 39, Row w.heap.size (Kd.int .i64) 3 (.slice A19 l0_1.length c19) al1, Row w.heap.size Kd.bool 4 (.slice (some ⟨g22, 0, none⟩) n c22) (List.replicate n false), Box gC #[.int .i64 (wrap64 (val + m)), .slice A19 l0_1.length c19, .slice (some ⟨g22, 0, none⟩) n c22] 39, Row w.heap.size (Kd.int .i64) 3 (.slice (some ad) step.length c8) step] := HL.out.drop_last
                    replace HL := Aside0.mk (HL1.turn (i := 5) rfl Emp (fun _ _ => trivial))
                    clear HL1
                    have b0 : w10.cell? ⟨g3, 0, none⟩ = some (.int .i64 (n : Int)) := (HL.out.box_cell (i := 0) rfl 0).trans rfl
                    have b1 : w10.cell? ⟨g3, 1, none⟩ = some (.slice A0_1 l0_1.length c0_1) := (HL.out.box_cell (i := 0) rfl 1).trans rfl
                    have b7 : w10.cell? ⟨gC, 1, none⟩ = some (.slice A19 l0_1.length c19) := (HL.out.box_cell (i := 4) rfl 1).trans rfl
                    have hll : l0_1.length = al1.length := (Kd.R_reads' (HL.out.row (i := 2) rfl)).1
                    have HC := codewrightref51_Reach.calls g1 (n : Int) A0_1 c0_1 l0_1 A19 c19 al1 a1 step2 w10 (Kd.C_below HR0.out HL.out.hb) hc0_1 (Kd.R_reads' (HL.out.row (i := 2) rfl)).2.2 (by have := (Kd.R_reads' (HL.out.row (i := 2) rfl)).2.1; omega) HS2.out
                    rw [← hll] at HC
                    have HCall := Aside0.mk HC
                    clear HC HS2 hll
                    go_wp2_with ((with_reducible refine gate_callee (f := 41) rfl ?_); refine goesL_ (some 120) rfl rfl Try.func41 (by kernel_rfl) rfl #[.agg #[.int .i64 (n : Int), .slice A0_1 l0_1.length c0_1], .slice A19 l0_1.length c19, .int .i64 a1] rfl (by (try simp only [List.map_toArray, List.map_cons, List.map_nil]); first | done | rfl) ?_; refine HCall.out.mono ?_; rintro e w11 ⟨v8, rfl, ho0, hb⟩; refine ⟨_, rfl, ?_⟩; have HL1 := Aside0.mk (HL.out.fill_row (i := 5) rfl ho0 hb); clear HL b0 b1 b7 ho0 hb HCall; have HL := HL1; clear HL1; (obtain ⟨A8, c8', e8⟩ := Kd.R_slice (HL.out.row (i := 5) rfl)); subst e8)
                    go_roundg g1
                    case measure => omega
                    case rel => exact ⟨A8, c8', _, _, step2, rfl, HM, HL⟩
                  | succ g3' =>
                    have hj : decide (j < p.length) = true := decide_eq_true (by have := HK.out; omega)
                    have hjz : (j : Int) < (p.length : Int) := by have := HK.out; omega
                    have hjb : j + 1 < 9223372036854775808 := by have := HK.out; have := (Kd.R_reads' (HL.out.row (i := 6) rfl)).2.2.2.1; omega
                    obtain ⟨ad3, e3, xa⟩ := Kd.at_int (Kd.R_reads' (HL.out.row (i := 6) rfl)).2.2 (j : Int) (by omega) hjz
                    subst e3
                    rw [show ((j : Int)).toNat = j from rfl] at xa
                    have HD := Aside0.mk (show p.drop j = rd p (j : Int) :: p.drop (j + 1) by
                      have hk : j < p.length := by omega
                      rw [List.drop_eq_getElem_cons hk]; simp [rd, List.getD, hk])
                    generalize rd p (j : Int) = x at xa HD
                    have h1 := HAp.out
                    rw [HD.out] at h1
                    simp only [xApp] at h1
                    clear HAp HD
                    split at h1
                    · rename_i hg
                      obtain ⟨q1, q2⟩ := hg
                      have hH : rHalf x = wrap64 (Int.tdiv x 2) := rfl
                      generalize rHalf x = f at hH q1 q2 h1
                      obtain ⟨f, rfl⟩ : ∃ m : Nat, f = (m : Int) := ⟨f.toNat, by omega⟩
                      replace hH := hH.symm
                      rw [show ((f : Int)).toNat = f from rfl] at h1
                      have HAp := Aside0.mk h1
                      clear h1
                      obtain ⟨ga, pa, ea, -, -, -⟩ := Kd.R_form (HL.out.row (i := 2) rfl) (by omega)
                      injection ea with ea1 ea2 ea3
                      subst ea1 ea3
                      have HLE := Aside0.mk ea2
                      have HLF : (f : Int) < (l0_1.length : Int) := by omega
                      clear ea2
                      obtain ⟨fl, HFL⟩ : ∃ fl, Aside0 (rd al1 (f : Int) = fl) := ⟨_, ⟨rfl⟩⟩
                      rw [HFL.out] at HAp
                      obtain ⟨xd, fd⟩ := Kd.R_celln 0 (HL.out.row (i := 2) rfl) (f : Int) (by omega) HLF
                      rw [show ((f : Int)).toNat = f from rfl] at xd fd
                      replace xd : wr.cell? ⟨ga, f, none⟩ = some (.int .i64 fl) := xd.trans (congrArg (fun z => some (Value.int .i64 z)) HFL.out)
                      have b7 : wr.cell? ⟨gC, 1, none⟩ = some (.slice (some ⟨ga, 0, none⟩) l0_1.length c19) := (HL.out.box_cell (i := 4) rfl 1).trans rfl
                      by_cases he : x.tmod 2 = 0
                      · have d1 : (x.tmod 2 == 0) = true := by rw [he]; rfl
                        rw [if_pos he] at HAp
                        go_upto_region 18 with (fail)
                        go_region
                        have HL3 := Aside0.mk (show Live w ((wr.setCell ⟨ga, f, none⟩ (.int .i64 (wrap64 (fl + m)))).drew) _ from (HL.out.put (i := 2) (enc := Value.int .i64) rfl (f : Int) (wrap64 (fl + m))).drew)
                        clear HL b7 xd fd xa
                        have HL := HL3
                        clear HL3
                        generalize ((wr.setCell ⟨ga, f, none⟩ (.int .i64 (wrap64 (fl + m)))).drew) = wd at HL ⊢
                        go_wp2
                        go_roundg g3'
                        case measure => omega
                        case rel => exact ⟨j + 1, _, by go_num, ⟨by have := HK.out; omega⟩, HAp, HL⟩
                      · have d1 : (x.tmod 2 == 0) = false := by simpa using he
                        have d2 : decide (x.tmod 2 = 0) = false := decide_eq_false he
                        rw [if_neg he] at HAp
                        go_upto_region 19 with (fail)
                        go_region
                        have HL3 := Aside0.mk (show Live w ((wr.setCell ⟨ga, f, none⟩ (.int .i64 (wrap64 (fl - m)))).drew) _ from (HL.out.put (i := 2) (enc := Value.int .i64) rfl (f : Int) (wrap64 (fl - m))).drew)
                        clear HL b7 xd fd xa
                        have HL := HL3
                        clear HL3
                        generalize ((wr.setCell ⟨ga, f, none⟩ (.int .i64 (wrap64 (fl - m)))).drew) = wd at HL ⊢
                        go_wp2
                        go_roundg g3'
                        case measure => omega
                        case rel => exact ⟨j + 1, _, by go_num, ⟨by have := HK.out; omega⟩, HAp, HL⟩
                    · cases h1
              | succ g2 =>
                have hj : decide (j < p.length) = true := decide_eq_true (by have := HK.out; omega)
                have hjz : (j : Int) < (p.length : Int) := by have := HK.out; omega
                have hjb : j + 1 < 9223372036854775808 := by have := HK.out; have := (Kd.R_reads' (HL.out.row (i := 6) rfl)).2.2.2.1; omega
                obtain ⟨ad3, e3, xa⟩ := Kd.at_int (Kd.R_reads' (HL.out.row (i := 6) rfl)).2.2 (j : Int) (by omega) hjz
                subst e3
                rw [show ((j : Int)).toNat = j from rfl] at xa
                have HD := Aside0.mk (show p.drop j = rd p (j : Int) :: p.drop (j + 1) by
                  have hk : j < p.length := by omega
                  rw [List.drop_eq_getElem_cons hk]; simp [rd, List.getD, hk])
                generalize rd p (j : Int) = x at xa HD
                have h1 := HAm.out
                rw [HD.out] at h1
                simp only [xAmt] at h1
                clear HAm HD
                split at h1
                · rename_i hg
                  obtain ⟨q1, q2, q3⟩ := hg
                  have HF := Aside0.mk (show xFree l0_1 al x = if Int.tmod x 2 = 1 then rd al (rHalf x) else wrap64 ((rd_T36 l0_1 (rHalf x)).f2 - rd al (rHalf x)) from rfl)
                  generalize xFree l0_1 al x = fr at HF h1
                  have hH : rHalf x = wrap64 (Int.tdiv x 2) := rfl
                  generalize rHalf x = f at hH q1 q2 q3 HF
                  obtain ⟨f, rfl⟩ : ∃ m : Nat, f = (m : Int) := ⟨f.toNat, by omega⟩
                  replace hH := hH.symm
                  have HAm := Aside0.mk h1
                  clear h1
                  obtain ⟨ad4, e4, xc0, xc1, xc2⟩ := at_T36 HR0.out (f : Int) (by omega) q2
                  subst e4
                  obtain ⟨ad5, e5, xd⟩ := Kd.at_int (Kd.R_reads' (HL.out.row (i := 2) rfl)).2.2 (f : Int) (by omega) q3
                  subst e5
                  have HLF : (f : Int) < (l0_1.length : Int) := q2
                  rw [show ((f : Int)).toNat = f from rfl] at xc2 xd
                  generalize rd_T36 l0_1 (f : Int) = arc at xc2 HF
                  obtain ⟨fl, HFL⟩ : ∃ fl, Aside0 (rd al (f : Int) = fl) := ⟨_, ⟨rfl⟩⟩
                  rw [HFL.out] at xd HF
                  clear xc0 xc1
                  replace xc2 := HL.out.old xc2
                  have b1 : wr.cell? ⟨g3, 1, none⟩ = some (.slice (some ad4) l0_1.length c0_1) := (HL.out.box_cell (i := 0) rfl 1).trans rfl
                  have b7 : wr.cell? ⟨gC, 1, none⟩ = some (.slice (some ad5) l0_1.length c19) := (HL.out.box_cell (i := 4) rfl 1).trans rfl
                  go_upto_region 10 with (fail)
                  go_quiet (fail)
                  go_upto_if 66 with (fail)
                  go_cut [12, 13] from 38 to 74 (fun v12 v13 wc => v13 = .int .i64 fr ∧ Aside0 (Live w wc ([Box g3 #[.int .i64 (n : Int), .slice (some ad4) l0_1.length c0_1] 24, Box g6 #[.int .i64 0, .slice none 0 0, .slice none 0 0] 39, Row w.heap.size (Kd.int .i64) 3 (.slice (some ad5) l0_1.length c19) al, Row w.heap.size Kd.bool 4 (.slice (some ⟨g22, 0, none⟩) n c22) (List.replicate n false), Box gC #[.int .i64 val, .slice (some ad5) l0_1.length c19, .slice (some ⟨g22, 0, none⟩) n c22] 39, Row w.heap.size (Kd.int .i64) 3 (.slice (some ad) step.length c8) step] ++ [Row w.heap.size (Kd.int .i64) 3 (.slice (some ad3) p.length c9) p])))
                  case first =>
                    by_cases hodd : x.tmod 2 = 1
                    · have e2 : fr = fl := by have := HF.out; rw [if_pos hodd] at this; exact this
                      have d1 : (x.tmod 2 == 1) = true := by rw [hodd]; rfl
                      subst e2
                      go_wp2
                      go_meet
                      case rel => exact ⟨rfl, ⟨HL.out.drewN _⟩⟩
                    · have e2 : fr = wrap64 (arc.f2 - fl) := by have := HF.out; rw [if_neg hodd] at this; exact this
                      have d1 : (x.tmod 2 == 1) = false := by simpa using hodd
                      have d2 : decide (x.tmod 2 = 1) = false := decide_eq_false hodd
                      subst e2
                      go_wp2
                      go_meet
                      case rel => exact ⟨by simp only [i64_w], ⟨HL.out.drewN _⟩⟩
                  case rest =>
                    clear HL b1 b7 xc2 xd xa
                    obtain ⟨rfl, HL⟩ := hcut
                    clear HF hH
                    by_cases hmn : fr < m
                    · have e := Aside0.mk (show mn m fr = fr by simp [mn, hmn])
                      rw [e.out] at HAm
                      go_wp2
                      go_roundg g2
                      case measure => omega
                      case rel => exact ⟨j + 1, fr, rfl, by go_num, ⟨by have := HK.out; omega⟩, HAm, HL⟩
                    · have e := Aside0.mk (show mn m fr = m by simp [mn, hmn])
                      rw [e.out] at HAm
                      go_wp2
                      go_roundg g2
                      case measure => omega
                      case rel => exact ⟨j + 1, m, rfl, by go_num, ⟨by have := HK.out; omega⟩, HAm, HL⟩
                · cases h1
        · cases h1
  · cases h
end Go.Proofs.Ytidomjhihfoabaa.PF
