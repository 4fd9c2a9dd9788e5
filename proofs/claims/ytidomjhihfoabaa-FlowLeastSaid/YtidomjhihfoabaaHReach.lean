/- codewrightref51.Reach: what its call does, as a plain function on lists. -/
import Derived.Test.YtidomjhihfoabaaHSG
namespace Go.Proofs.Ytidomjhihfoabaa.PF
open Go Go.RowKit Go.Lib Go.Proofs.YtidomjhihfoabaaW.PrintWords Go.Proofs.YtidomjhihfoabaaW.PrintLast Go.Proofs.Ytidomjhihfoabaa.Lv
set_option linter.unusedVariables false
set_option linter.unusedSimpArgs false

theorem hi33 : (Try.prog.info? 33).map (fun i => (i.zero, i.size, i.bytes)) = some (some (.slice none 0 0), 1, 24) := by kernel_rfl
def T15 : Bool × List (List Nat × List Nat) := (true, [([], []), ([], []), ([1], [1]), ([], []), ([], []), ([4], [4]), ([3, 5], [3, 5]), ([6], [6]), ([], []), ([8], [8]), ([9], [9]), ([10], [10]), ([7, 11], [7, 11]), ([0, 2, 0, 1, 2, 3, 4, 5, 6, 7, 8, 9, 10, 11, 12], [0, 2]), ([13, 12, 12, 0, 1, 2, 3, 4, 5, 6, 7, 8, 9, 10, 11, 12], [12, 13])])
def B15 : List Nat := [0, 0, 2, 0, 0, 16, 56, 120, 0, 256, 768, 1792, 4088, 8191, 16383]
theorem bits15 : waitsOk T15.2 B15 = true := by kernel_rfl
theorem tab41_6 : rtab .any (opsOf Try.f41 6) = T14 := by kernel_rfl
theorem tab41_7 : rtab .any (opsOf Try.f41 7) = T15 := by kernel_rfl

def rAt : Nat → List S36 → List (List Int) → Option (List (List Int))
  | _, [], at_ => some at_
  | i, a :: xs, at_ => (gPut at_ a.f0 (wrap64 (2 * (i : Int)))).bind fun at1 => (gPut at1 a.f1 (wrap64 (wrap64 (2 * (i : Int)) + 1))).bind (rAt (i + 1) xs)
def rTo (l : List S36) (x : Int) : Int := if Int.tmod x 2 = 1 then (rd_T36 l (rHalf x)).f0 else (rd_T36 l (rHalf x)).f1
def rOpen (l : List S36) (al : List Int) (x : Int) : Bool := if Int.tmod x 2 = 1 then decide (rd al (rHalf x) > 0) else decide (rd al (rHalf x) < (rd_T36 l (rHalf x)).f2)
structure RSt where
  step : List Int
  q : List Int
def rStep (l : List S36) (al : List Int) (st : RSt) (x : Int) : Option RSt :=
  if 0 ≤ rHalf x ∧ rHalf x < (l.length : Int) ∧ rHalf x < (al.length : Int) ∧ 0 ≤ rTo l x ∧ rTo l x < (st.step.length : Int) ∧ st.q.length < 1099511627776 then
    (if rOpen l al x = true ∧ rd st.step (rTo l x) = -2 then some ⟨st.step.set (rTo l x).toNat x, st.q ++ [rTo l x]⟩ else some st)
  else none
def rInner (l : List S36) (al : List Int) : List Int → RSt → Option RSt
  | [], st => some st
  | x :: xs, st => (rStep l al st x).bind (rInner l al xs)
def rLoop (l : List S36) (al : List Int) (at_ : List (List Int)) : Nat → Nat → RSt → Option (List Int)
  | 0, _, _ => none
  | f + 1, k, st => if k < st.q.length then (if 0 ≤ rd st.q (k : Int) ∧ rd st.q (k : Int) < (at_.length : Int) then (rInner l al (at_.getD (rd st.q (k : Int)).toNat []) st).bind (rLoop l al at_ f (k + 1)) else none) else some st.step
def codewrightref51_Reach.f (k : Nat) (n : Int) (l : List S36) (al : List Int) (s : Int) : Option (List Int) :=
  if 0 ≤ s ∧ s < n ∧ n ≤ 1099511627776 ∧ l.length ≤ 1099511627776 then (rAt 0 l (List.replicate n.toNat [])).bind fun at_ => rLoop l al at_ k 0 ⟨(List.replicate n.toNat (-2)).set s.toNat (-1), [s]⟩ else none
theorem rLoop_mono (l : List S36) (al : List Int) (at_ : List (List Int)) : ∀ f k st, LeO (rLoop l al at_ f k st) (rLoop l al at_ (f + 1) k st)
  | 0, _, _ => fun r h => by simp [rLoop] at h
  | f + 1, k, st => by
    unfold rLoop
    repeat' first
      | exact LeO.refl _
      | exact LeO.none _
      | refine LeO.ite ?_ ?_
      | refine LeO.bind ?_ (fun _ => ?_)
      | exact rLoop_mono l al at_ f _ _
theorem codewrightref51_Reach.mono : ∀ a0 a1 a2 a3 k, LeO (codewrightref51_Reach.f k a0 a1 a2 a3) (codewrightref51_Reach.f (k + 1) a0 a1 a2 a3) := by
  intro a0 a1 a2 a3 k
  unfold codewrightref51_Reach.f
  refine LeO.ite (LeO.bind (LeO.refl _) (fun _ => ?_)) (LeO.refl _)
  exact rLoop_mono _ _ _ _ _ _
theorem fill_step (a b : Int) (j m : Nat) : (List.replicate j a ++ List.replicate (m + 1) b).set j a = List.replicate (j + 1) a ++ List.replicate m b := by
  rw [List.set_append_right _ _ (by simp), List.length_replicate, Nat.sub_self, List.replicate_succ, List.set_cons_zero, List.replicate_succ', List.append_assoc]; rfl

set_option maxHeartbeats 8000000 in
set_option maxRecDepth 100000 in
theorem codewrightref51_Reach.calls (k : Nat) (a0_0 : Int) (A0_1 : Option Addr) (c0_1 : Nat) (l0_1 : List S36) (A1 : Option Addr) (c1 : Nat) (l1 : List Int) (a2 : Int) (r : List Int) (w : World)
    (hr0_1 : Kd.C k36 w A0_1 l0_1.length l0_1) (hc0_1 : l0_1.length ≤ c0_1) (hr1 : Kd.C (Kd.int .i64) w A1 l1.length l1) (hc1 : l1.length ≤ c1)
    (h : codewrightref51_Reach.f k a0_0 l0_1 l1 a2 = some r) :
    Calls Try.prog 41 #[.agg #[.int .i64 a0_0, .slice A0_1 l0_1.length c0_1], .slice A1 l1.length c1, .int .i64 a2] w fun e w' => ∃ v0_ : Value, e = .returned (v0_) ∧ Kd.R (Kd.int .i64) 3 w' w.heap.size (fun _ => True) v0_ r ∧ Below w.heap.size w w' := by
  have hu24 := Try.underlying24
  have hu36 := Try.underlying36
  have HR0 := Aside0.mk hr0_1
  have HR1 := Aside0.mk hr1
  clear hr0_1 hr1 hc0_1 hc1
  unfold codewrightref51_Reach.f at h
  split at h
  · rename_i hs
    obtain ⟨hs0, hs1, hn, hln⟩ := hs
    obtain ⟨n, rfl⟩ : ∃ n : Nat, a0_0 = (n : Int) := ⟨a0_0.toNat, by omega⟩
    obtain ⟨s, rfl⟩ : ∃ n : Nat, a2 = (n : Int) := ⟨a2.toNat, by omega⟩
    obtain ⟨at2, hat, hmain⟩ := Option.bind_eq_some_iff.1 h
    rw [show ((n : Int)).toNat = n from rfl] at hat
    rw [show ((n : Int)).toNat = n from rfl, show ((s : Int)).toNat = s from rfl] at hmain
    have HAT := Aside0.mk hat
    have HM := Aside0.mk hmain
    clear h hat hmain
    have HL := Aside0.mk (Live.nil w)
    go_enter Try.func41, Try.ntmps41
    go_wp2_with (first
      | ((with_reducible refine gate_dst (N := 3) rfl ?_); refine ev_new HL #[.int .i64 (n : Int), .slice A0_1 l0_1.length c0_1] 24 rfl 3 rfl ?hr ?_; (case hr => first | (go_simp; done) | (go_simp; rfl)); intro g3 w1 G3 HL1; clear HL; have HL := HL1; clear HL1; have b0 : w1.cell? ⟨g3, 0, none⟩ = some (.int .i64 (n : Int)) := (HL.out.box_cell (i := 0) rfl 0).trans rfl)
      | ((with_reducible refine gate_dst (N := 21) rfl ?_); refine ev_makeS HL (Kd.slice 3 (Kd.int .i64)) 33 [] n 21 76 _ _ (.slice none 0 0) 24 rfl rfl rfl rfl rfl Try.underlying76 hi33 rfl (by decide) (by decide) ⟨_, rfl, Kd.R_nil _ _ _ _ _⟩ (by omega) ?_; intro v7 w3 HL1; clear HL b0; have HL := HL1; clear HL1;
          (obtain ⟨g7, p7, e7, -, -, -⟩ := Kd.S_form (HL.out.rowS (i := 1) rfl) (by simp; omega)); (rw [List.length_replicate] at e7); subst e7)
      )
    go_loopg [8] l0_1.length (fun gk v8 wr => ∃ (j : Nat) (at_ : List (List Int)), v8 = .int .i64 (j : Int) ∧ Aside0 (l0_1.length = j + gk) ∧ Aside0 (rAt j (l0_1.drop j) at_ = some at2 ∧ at_.length = n) ∧ Aside0 (Live w wr [Box g3 #[.int .i64 (n : Int), .slice A0_1 l0_1.length c0_1] 24, RowS w.heap.size (Kd.slice 3 (Kd.int .i64)) 33 (.slice (some ⟨g7, 0, none⟩) n p7) at_]))
    case atStart => exact ⟨0, _, rfl, ⟨by omega⟩, ⟨HAT.out, by simp⟩, HL⟩
    case round =>
      clear HL HAT
      obtain ⟨j, at_, rfl, HK, HAT, HL⟩ := hrel
      have b1 : wr.cell? ⟨g3, 1, none⟩ = some (.slice A0_1 l0_1.length c0_1) := (HL.out.box_cell (i := 0) rfl 1).trans rfl
      cases gk with
      | zero =>
        have hj : decide (j < l0_1.length) = false := decide_eq_false (by have := HK.out; omega)
        have hfin : at_ = at2 := by
          have h1 := HAT.out.1
          rw [List.drop_of_length_le (by have := HK.out; omega)] at h1
          exact Option.some.inj h1
        have HAL := Aside0.mk HAT.out.2
        subst hfin
        clear HAT HK
        have b0 : wr.cell? ⟨g3, 0, none⟩ = some (.int .i64 (n : Int)) := (HL.out.box_cell (i := 0) rfl 0).trans rfl
        go_wp2_with (first
          | ((with_reducible refine gate_dst (N := 63) rfl ?_); refine ev_make HL (Kd.int .i64) 3 0 n 63 33 _ _ (.int .i64 0) 8 rfl rfl rfl rfl rfl Try.underlying33 hi3 rfl (by decide) (by decide) rfl (by omega) ?_; intro v10 w4 HL1; clear HL b0 b1; have HL := HL1; clear HL1; (obtain ⟨g10, p10, e10, -, -, -⟩ := Kd.R_form (HL.out.row (i := 2) rfl) (by simp; omega)); (rw [List.length_replicate] at e10); subst e10)
          )
        go_loopg [11] n (fun gk v11 wr => ∃ j : Nat, v11 = .int .i64 (j : Int) ∧ Aside0 (n = j + gk) ∧ Aside0 (Live w wr [Box g3 #[.int .i64 (n : Int), .slice A0_1 l0_1.length c0_1] 24, RowS w.heap.size (Kd.slice 3 (Kd.int .i64)) 33 (.slice (some ⟨g7, 0, none⟩) n p7) at_, Row w.heap.size (Kd.int .i64) 3 (.slice (some ⟨g10, 0, none⟩) n p10) (List.replicate j (-2) ++ List.replicate gk 0)]))
        case atStart => exact ⟨0, rfl, ⟨by omega⟩, HL⟩
        case round =>
          clear HL
          obtain ⟨j, rfl, HK, HL⟩ := hrel
          have b0 : wr.cell? ⟨g3, 0, none⟩ = some (.int .i64 (n : Int)) := (HL.out.box_cell (i := 0) rfl 0).trans rfl
          cases gk with
          | zero =>
            have hj : decide (j < n) = false := decide_eq_false (by have := HK.out; omega)
            obtain rfl : j = n := by have := HK.out; omega
            clear HK
            obtain ⟨x10, f10⟩ := Kd.R_celln 0 (HL.out.row (i := 2) rfl) (s : Int) (by omega) (by omega)
            rw [show ((s : Int)).toNat = s from rfl] at x10 f10
            go_wp2_with (first
              | ((with_reducible refine gate_store (t := 3) (p := 75) rfl ?_); refine ev_set HL (fun h => h.put (i := 2) (enc := Value.int .i64) rfl (s : Int) (-1)) 3 75 rfl rfl rfl ?hr ?_; (case hr => first | (go_simp; done) | (go_simp; rfl)); intro w5 HL1; clear HL x10 f10 b0; have HL := HL1; clear HL1)
              | ((with_reducible refine gate_dst (N := 77) rfl ?_); refine ev_lit HL (Kd.int .i64) 3 (s : Int) [.int .i64 (s : Int)] 77 rfl rfl ?hr rfl ?_; (case hr => first | (go_simp; done) | (go_simp; rfl)); intro A12 c12 w6 HL1; clear HL; have HL := HL1; clear HL1)
              )
            go_loopg [12, 13] k (fun gk v12 v13 wr => ∃ (A : Option Addr) (c kk : Nat) (st : RSt), v12 = .slice A st.q.length c ∧ v13 = .int .i64 (kk : Int) ∧ Aside0 (rLoop l0_1 l1 at_ gk kk st = some r) ∧ Aside0 (Live w wr [Box g3 #[.int .i64 (j : Int), .slice A0_1 l0_1.length c0_1] 24, RowS w.heap.size (Kd.slice 3 (Kd.int .i64)) 33 (.slice (some ⟨g7, 0, none⟩) j p7) at_, Row w.heap.size (Kd.int .i64) 3 (.slice (some ⟨g10, 0, none⟩) j p10) st.step, RowQ w.heap.size (Kd.int .i64) 3 (.slice A st.q.length c) st.q]))
            case atStart => exact ⟨A12, c12, 0, ⟨_, [(s : Int)]⟩, rfl, rfl, HM, ⟨by have h := HL.out; simp only [List.replicate_zero, List.append_nil] at h; exact h⟩⟩
            case round =>
              clear HL HM
              obtain ⟨A, c, kk, st, rfl, rfl, HM, HL⟩ := hrel
              cases gk with
              | zero => exact absurd HM.out (by simp [rLoop])
              | succ g1 =>
                have h1 := HM.out
                clear HM
                simp only [rLoop] at h1
                split at h1
                · rename_i hk
                  split at h1
                  · rename_i hv
                    obtain ⟨st', hin, hout⟩ := Option.bind_eq_some_iff.1 h1
                    have HM := Aside0.mk hout
                    have HI := Aside0.mk hin
                    clear h1 hout hin
                    obtain ⟨hv0, hv1⟩ := hv
                    obtain ⟨ad, ea, xq⟩ := Kd.at_int (Kd.Q_reads' (HL.out.rowQ (i := 3) rfl)).2.2 (kk : Int) (by omega) (by omega)
                    subst ea
                    rw [show ((kk : Int)).toNat = kk from rfl] at xq
                    generalize rd st.q (kk : Int) = v at hv0 hv1 HI xq
                    obtain ⟨v, rfl⟩ : ∃ m : Nat, v = (m : Int) := ⟨v.toNat, by omega⟩
                    replace HI := Aside0.mk (show rInner l0_1 l1 (at_.getD v []) st = some st' from HI.out)
                    have hvj : (v : Int) < (j : Int) := by have := HAL.out; omega
                    have hkb : kk + 1 < 9223372036854775808 := by have := (Kd.Q_reads' (HL.out.rowQ (i := 3) rfl)).2.2.2.1; omega
                    have hk1 : decide (kk < st.q.length) = true := decide_eq_true hk
                    have hk2 : (kk : Int) < (st.q.length : Int) := by omega
                    obtain ⟨ys, HYS⟩ : ∃ ys, Aside0 (at_.getD v [] = ys) := ⟨_, ⟨rfl⟩⟩
                    rw [HYS.out] at HI
                    go_wp2
                    clear xq hk1 hk hk2
                    go_loopg [12, 15] ys.length (fun gg v12 v15 wr => ∃ (jj : Nat) (A : Option Addr) (c : Nat) (st2 : RSt), v15 = .int .i64 (jj : Int) ∧ v12 = .slice A st2.q.length c ∧ Aside0 (ys.length = jj + gg) ∧ Aside0 (rInner l0_1 l1 (ys.drop jj) st2 = some st') ∧ Aside0 (Live w wr [Box g3 #[.int .i64 (j : Int), .slice A0_1 l0_1.length c0_1] 24, RowS w.heap.size (Kd.slice 3 (Kd.int .i64)) 33 (.slice (some ⟨g7, 0, none⟩) j p7) at_, Row w.heap.size (Kd.int .i64) 3 (.slice (some ⟨g10, 0, none⟩) j p10) st2.step, RowQ w.heap.size (Kd.int .i64) 3 (.slice A st2.q.length c) st2.q]))
                    case atStart => exact ⟨0, some ad, c, st, rfl, rfl, ⟨by omega⟩, HI, HL⟩
                    case round =>
                      clear HL HI
                      obtain ⟨jj, A, c, st2, rfl, rfl, HK, HI, HL⟩ := hrel
                      obtain ⟨ad7, Ay, cy, e7, x7, hly, HY0⟩ := at_rows (Kd.S_reads' (HL.out.rowS (i := 1) rfl)).2.2 (v : Int) (by omega) (by have := HAL.out; omega)
                      obtain rfl := Option.some.inj e7
                      rw [add_plain, show ((v : Int)).toNat = v from rfl] at x7
                      rw [show ((v : Int)).toNat = v from rfl, HYS.out] at HY0
                      rw [HYS.out] at x7
                      have HY := Aside0.mk HY0
                      clear HY0 hly
                      cases gk with
                      | zero =>
                        have hj2 : decide (jj < ys.length) = false := decide_eq_false (by have := HK.out; omega)
                        have hfin : st2 = st' := by
                          have h1 := HI.out
                          rw [List.drop_of_length_le (by have := HK.out; omega)] at h1
                          exact Option.some.inj h1
                        subst hfin
                        clear HI HK
                        go_wp2
                        go_roundg g1
                        case measure => omega
                        case rel => exact ⟨A, c, kk + 1, st2, rfl, by go_num, HM, HL⟩
                      | succ g2 =>
                        have hj2 : decide (jj < ys.length) = true := decide_eq_true (by have := HK.out; omega)
                        have hjz : (jj : Int) < (ys.length : Int) := by have := HK.out; omega
                        have hjb : jj + 1 < 9223372036854775808 := by have := HK.out; have := HY.out.2.1; omega
                        obtain ⟨ad3, e3, xa⟩ := Kd.at_int HY.out (jj : Int) (by omega) hjz
                        subst e3
                        rw [show ((jj : Int)).toNat = jj from rfl] at xa
                        have HD := Aside0.mk (show ys.drop jj = rd ys (jj : Int) :: ys.drop (jj + 1) by
                          have hk : jj < ys.length := by omega
                          rw [List.drop_eq_getElem_cons hk]; simp [rd, List.getD, hk])
                        obtain ⟨x, HX⟩ : ∃ x, Aside0 (rd ys (jj : Int) = x) := ⟨_, ⟨rfl⟩⟩
                        rw [HX.out] at xa HD
                        have h1 := HI.out
                        rw [HD.out] at h1
                        obtain ⟨st3, hst, hrest⟩ := Option.bind_eq_some_iff.1 h1
                        have HI2 := Aside0.mk hrest
                        clear HI HD h1 hrest
                        unfold rStep at hst
                        split at hst
                        · rename_i hg
                          obtain ⟨q1, q2, q3, q4, q5, q6⟩ := hg
                          have HT := Aside0.mk (show rTo l0_1 x = if Int.tmod x 2 = 1 then (rd_T36 l0_1 (rHalf x)).f0 else (rd_T36 l0_1 (rHalf x)).f1 from rfl)
                          have HO := Aside0.mk (show rOpen l0_1 l1 x = if Int.tmod x 2 = 1 then decide (rd l1 (rHalf x) > 0) else decide (rd l1 (rHalf x) < (rd_T36 l0_1 (rHalf x)).f2) from rfl)
                          generalize rTo l0_1 x = tt at HT hst q4 q5
                          generalize rOpen l0_1 l1 x = op at HO hst
                          have hH : rHalf x = wrap64 (Int.tdiv x 2) := rfl
                          generalize rHalf x = f at hH q1 q2 q3 HT HO
                          obtain ⟨f, rfl⟩ : ∃ m : Nat, f = (m : Int) := ⟨f.toNat, by omega⟩
                          replace hH := hH.symm
                          obtain ⟨ad4, e4, xc0, xc1, xc2⟩ := at_T36 HR0.out (f : Int) (by omega) q2
                          subst e4
                          obtain ⟨ad5, e5, xd⟩ := Kd.at_int HR1.out (f : Int) (by omega) q3
                          subst e5
                          rw [show ((f : Int)).toNat = f from rfl] at xc0 xc1 xc2 xd
                          generalize rd_T36 l0_1 (f : Int) = arc at xc0 xc1 xc2 HT HO
                          generalize rd l1 (f : Int) = fl at xd HO
                          have HS := Aside0.mk hst
                          clear hst
                          replace xc0 := HL.out.old xc0
                          replace xc1 := HL.out.old xc1
                          replace xc2 := HL.out.old xc2
                          replace xd := HL.out.old xd
                          have b1 : wr.cell? ⟨g3, 1, none⟩ = some (.slice (some ad4) l0_1.length c0_1) := (HL.out.box_cell (i := 0) rfl 1).trans rfl
                          go_upto_region 24 with (fail)
                          go_quiet (fail)
                          go_upto_if 130 with (fail)
                          go_cut [16, 17, 18] from 88 to 163 (fun v16 v17 v18 wc => v17 = .int .i64 tt ∧ v18 = .bool op ∧ Aside0 (Live w wc [Box g3 #[.int .i64 (j : Int), .slice (some ad4) l0_1.length c0_1] 24, RowS w.heap.size (Kd.slice 3 (Kd.int .i64)) 33 (.slice (some ⟨g7, 0, none⟩) j p7) at_, Row w.heap.size (Kd.int .i64) 3 (.slice (some ⟨g10, 0, none⟩) j p10) st2.step, RowQ w.heap.size (Kd.int .i64) 3 (.slice A st2.q.length c) st2.q]))
                          case first =>
                            by_cases hodd : x.tmod 2 = 1
                            · have e1 : tt = arc.f0 := by have := HT.out; rw [if_pos hodd] at this; exact this
                              have e2 : op = decide (fl > 0) := by have := HO.out; rw [if_pos hodd] at this; exact this
                              have d1 : (x.tmod 2 == 1) = true := by rw [hodd]; rfl
                              subst e1 e2
                              go_wp2
                              go_meet
                              case rel => exact ⟨rfl, rfl, ⟨HL.out.drewN _⟩⟩
                            · have e1 : tt = arc.f1 := by have := HT.out; rw [if_neg hodd] at this; exact this
                              have e2 : op = decide (fl < arc.f2) := by have := HO.out; rw [if_neg hodd] at this; exact this
                              have d1 : (x.tmod 2 == 1) = false := by simpa using hodd
                              have d2 : decide (x.tmod 2 = 1) = false := decide_eq_false hodd
                              subst e1 e2
                              go_wp2
                              go_meet
                              case rel => exact ⟨rfl, rfl, ⟨HL.out.drewN _⟩⟩
                          case rest =>
                            clear HL b1 xc0 xc1 xc2 xd xa x7
                            obtain ⟨rfl, rfl, HL⟩ := hcut
                            clear HT HO hH q1 q2 q3
                            obtain ⟨tn, rfl⟩ : ∃ m : Nat, tt = (m : Int) := ⟨tt.toNat, by omega⟩
                            have h10 : (tn : Int) < (j : Int) := by have := (Kd.R_reads' (HL.out.row (i := 2) rfl)).1; omega
                            obtain ⟨x10, f10⟩ := Kd.R_celln 0 (HL.out.row (i := 2) rfl) (tn : Int) (by omega) h10
                            rw [show ((tn : Int)).toNat = tn from rfl] at x10 f10
                            replace x10 : wc.cell? ⟨g10, tn, none⟩ = some (.int .i64 (rd st2.step (tn : Int))) := x10
                            cases op with
                            | false =>
                              have HE : st3 = st2 := by
                                have := HS.out
                                rw [if_neg (by simp)] at this
                                exact (Option.some.inj this).symm
                              subst HE
                              go_wp2
                              go_roundg g2
                              case measure => omega
                              case rel => exact ⟨jj + 1, A, c, _, by go_num, rfl, ⟨by have := HK.out; omega⟩, HI2, HL⟩
                            | true =>
                              by_cases hz : rd st2.step (tn : Int) = -2
                              · rw [hz] at x10
                                have HS2 : st3 = ⟨st2.step.set tn x, st2.q ++ [(tn : Int)]⟩ := by
                                  have := HS.out
                                  rw [if_pos ⟨rfl, hz⟩] at this
                                  exact (Option.some.inj this).symm
                                clear hz HS
                                obtain ⟨ad7, Ay2, cy2, e7, x7, -, HY1⟩ := at_rows (Kd.S_reads' (HL.out.rowS (i := 1) rfl)).2.2 (v : Int) (by omega) (by have := HAL.out; omega)
                                obtain rfl := Option.some.inj e7
                                rw [add_plain, show ((v : Int)).toNat = v from rfl] at x7
                                rw [show ((v : Int)).toNat = v from rfl, HYS.out] at HY1
                                rw [HYS.out] at x7
                                obtain ⟨ad8, e8, xa⟩ := Kd.at_int HY1 (jj : Int) (by omega) hjz
                                subst e8
                                rw [show ((jj : Int)).toNat = jj from rfl, HX.out] at xa
                                clear HY1
                                go_wp2_with (first
                                  | ((with_reducible refine gate_store (t := 3) (p := 159) rfl ?_); refine ev_set HL (fun h => h.put (i := 2) (enc := Value.int .i64) rfl (tn : Int) x) 3 159 rfl rfl rfl ?hr ?_; (case hr => first | (go_simp; done) | (go_simp; rfl)); intro w5 HL1; clear HL x10 f10 x7 xa; have HL := HL1; clear HL1)
                                  | ((with_reducible refine gate_builtin (b := .append) (xs := #[.tmp 160, .tmp 162]) rfl ?_); at_builtin; refine ev_appendQ HL (i := 3) rfl (tn : Int) [.int .i64 (tn : Int)] 160 162 33 (.int .i64 0) 8 rfl rfl Try.underlying33 hi3 rfl (by decide) (by decide) rfl rfl rfl (by omega) ?_; intro v12 w6 HL1; clear HL; have HL := HL1; clear HL1; (obtain ⟨A5, c5, e5, -⟩ := Kd.Q_slice (HL.out.rowQ (i := 3) rfl)); subst e5)
                                  )
                                go_roundg g2
                                case measure => omega
                                case rel => exact ⟨jj + 1, A5, c5, st3, by go_num, by rw [HS2]; first | rfl | simp, ⟨by have := HK.out; omega⟩, HI2, ⟨by rw [HS2]; exact HL.out⟩⟩
                              · have HE : st3 = st2 := by
                                  have := HS.out
                                  rw [if_neg (by simp [hz])] at this
                                  exact (Option.some.inj this).symm
                                subst HE
                                generalize rd st3.step (tn : Int) = z at x10 hz
                                have d1 : decide (z = -2) = false := decide_eq_false hz
                                have d2 : (z == -2) = false := by simpa using hz
                                go_wp2
                                go_roundg g2
                                case measure => omega
                                case rel => exact ⟨jj + 1, A, c, _, by go_num, rfl, ⟨by have := HK.out; omega⟩, HI2, HL⟩
                        · cases hst
                  · cases h1
                · rename_i hk
                  have hk1 : decide (kk < st.q.length) = false := decide_eq_false hk
                  obtain rfl := Option.some.inj h1
                  go_wp2
                  go_ret
                  exact ⟨_, rfl, HL.out.row (i := 2) rfl, HL.out.hb⟩
          | succ g2 =>
            have hj : decide (j < n) = true := decide_eq_true (by have := HK.out; omega)
            have hjb : j + 1 < 9223372036854775808 := by have := HK.out; omega
            have HKn := HK.out
            obtain ⟨x10, f10⟩ := Kd.R_celln 0 (HL.out.row (i := 2) rfl) (j : Int) (by omega) (by omega)
            rw [show ((j : Int)).toNat = j from rfl] at x10 f10
            have HK2 := Aside0.mk HKn
            clear HKn
            have hjn : (j : Int) < (n : Int) := by have := HK.out; omega
            go_wp2_with (first
              | ((with_reducible refine gate_store (t := 3) (p := 72) rfl ?_); refine ev_set HL (fun h => h.put (i := 2) (enc := Value.int .i64) rfl (j : Int) (-2)) 3 72 rfl rfl rfl ?hr ?_; (case hr => first | (go_simp; done) | (go_simp; rfl)); intro w5 HL1; clear HL x10 f10 b0; have HL := HL1; clear HL1)
              )
            go_roundg g2
            case measure => omega
            case rel => exact ⟨j + 1, by go_num, ⟨by have := HK.out; omega⟩, ⟨by have h := HL.out; rw [show ((j : Int)).toNat = j from rfl, fill_step] at h; exact h⟩⟩
      | succ g2 =>
        have hj : decide (j < l0_1.length) = true := decide_eq_true (by have := HK.out; omega)
        have hjz : (j : Int) < (l0_1.length : Int) := by have := HK.out; omega
        have hjb : j + 1 < 9223372036854775808 := by omega
        obtain ⟨ad3, e3, xa0, xa1, xa2⟩ := at_T36 HR0.out (j : Int) (by omega) hjz
        subst e3
        rw [show ((j : Int)).toNat = j from rfl] at xa0 xa1 xa2
        have HD := Aside0.mk (show l0_1.drop j = rd_T36 l0_1 (j : Int) :: l0_1.drop (j + 1) by
          have hk : j < l0_1.length := by omega
          rw [List.drop_eq_getElem_cons hk]; simp [rd_T36, List.getD, hk])
        generalize rd_T36 l0_1 (j : Int) = x at xa0 xa1 xa2 HD
        have h1 := HAT.out.1
        have hal := HAT.out.2
        rw [HD.out] at h1
        obtain ⟨at3, hp1, h2⟩ := Option.bind_eq_some_iff.1 h1
        obtain ⟨at4, hp2, h3⟩ := Option.bind_eq_some_iff.1 h2
        clear HAT HD h1 h2
        unfold gPut at hp1 hp2
        split at hp1
        · rename_i hg1
          split at hp2
          · rename_i hg2
            obtain ⟨u0, u1, u2⟩ := hg1
            obtain ⟨t0, t1, t2⟩ := hg2
            obtain ⟨f, f', cp⟩ := x
            simp only at xa0 xa1 xa2 u0 u1 u2 t0 t1 t2 hp1 hp2
            obtain ⟨f, rfl⟩ : ∃ m : Nat, f = (m : Int) := ⟨f.toNat, by omega⟩
            obtain ⟨f', rfl⟩ : ∃ m : Nat, f' = (m : Int) := ⟨f'.toNat, by omega⟩
            rw [show ((f : Int)).toNat = f from rfl] at u2 hp1
            rw [show ((f' : Int)).toNat = f' from rfl] at t2 hp2
            have HP1 := Aside0.mk (Option.some.inj hp1)
            have HP2 := Aside0.mk (Option.some.inj hp2)
            have HAT := Aside0.mk h3
            have hal3 : at3.length = n := by rw [← HP1.out, List.length_set]; exact hal
            have hal4 : at4.length = n := by rw [← HP2.out, List.length_set]; exact hal3
            clear hp1 hp2 h3
            rw [hal] at u1
            rw [hal3] at t1
            replace xa0 := HL.out.old xa0
            replace xa1 := HL.out.old xa1
            replace xa2 := HL.out.old xa2
            go_upto_region 6 with (first
              | ((with_reducible refine gate_dst (N := 9) rfl ?_); refine ev_new HL #[.int .i64 0, .int .i64 0, .int .i64 0] 36 rfl 9 rfl ?hr ?_; (case hr => first | (go_simp; done) | (go_simp; rfl)); intro g9 w3 G9 HL1; clear HL b1 xa0 xa1 xa2; have HL := HL1; clear HL1; have f9 := HL.out.box_fz (i := 2) rfl; have b9 := HL.out.box_cell (i := 2) rfl)
              | ((with_reducible refine gate_store (t := 36) (p := 9) rfl ?_); refine ev_set HL (fun h => ((h.setbox (i := 2) rfl G9 0 (.int .i64 (f : Int))).setbox (i := 2) rfl G9 1 (.int .i64 (f' : Int))).setbox (i := 2) rfl G9 2 (.int .i64 cp)) 36 9 rfl rfl rfl ?hr ?_; (case hr => first | (go_simp; done) | (go_simp; rfl)); intro w4 HL1; clear HL f9 b9; have HL := HL1; clear HL1)
              )
            have hf1 : (f : Int) < (n : Int) := by omega
            have hf2 : (f' : Int) < (n : Int) := by omega
            obtain ⟨ad7, A7, c7, e7, x7, -, -⟩ := at_rows (Kd.S_reads' (HL.out.rowS (i := 1) rfl)).2.2 (f : Int) (by omega) (by omega)
            obtain rfl := Option.some.inj e7
            rw [add_plain, show ((f : Int)).toNat = f from rfl] at x7
            have HLd := Aside0.mk HL.out.drew
            have X7 := Aside0.mk (show w4.drew.cell? _ = _ from x7)
            clear HL x7
            refine start_ (n := 14) (S := fun w' => w'.cell? ⟨g9, 0, none⟩ = some (.int .i64 (f : Int)) ∧ w'.cell? ⟨g7, f, none⟩ = some (.slice A7 (at_.getD f []).length c7)) (ds := [13]) #[false, false, false, false, false, false, false, false, false, false, false, false, false, false] (by kernel_rfl) rfl rfl ⟨(HLd.out.box_cell (i := 2) rfl 0).trans rfl, X7.out⟩ (fun hHeld => ?_); refine with_tabW tab41_6 bits14 (fun HT_ HW_ => ?_)
            generalize w4.drew = wd_ at HLd X7 hHeld ⊢
            refine pure_ (i := 0) (N := some 34) (v := ?_) (a' := ?_) #[true, false, false, false, false, false, false, false, false, false, false, false, false, false] rfl rfl (any_of HT_.out (by kernel_rfl)) (fun _ _ _ h => h) (Or.inl ⟨by rfl, ?_⟩) ?_ ?_; (rotate_left; · intro w'; go_simp; with_reducible rfl); (rotate_left; · simp only [Act.put, List.setIfInBounds_toArray, List.set_cons_zero, List.set_cons_succ, i64_w, i32_w]; rfl)
            refine pure_ (i := 1) (N := some 35) (v := ?_) (a' := ?_) #[true, true, false, false, false, false, false, false, false, false, false, false, false, false] rfl rfl (any_of HT_.out (by kernel_rfl)) (fun _ _ _ h => h) (Or.inl ⟨by rfl, ?_⟩) ?_ ?_; (rotate_left; · intro w'; go_simp; with_reducible rfl); (rotate_left; · simp only [Act.put, List.setIfInBounds_toArray, List.set_cons_zero, List.set_cons_succ, i64_w, i32_w]; rfl)
            refine pure_ (i := 3) (N := some 37) (v := ?_) (a' := ?_) #[true, true, false, true, false, false, false, false, false, false, false, false, false, false] rfl rfl (any_of HT_.out (by kernel_rfl)) (fun _ _ _ h => h) (Or.inl ⟨by rfl, ?_⟩) ?_ ?_; (rotate_left; · intro w'; go_simp; with_reducible rfl); (rotate_left; · simp only [Act.put, List.setIfInBounds_toArray, List.set_cons_zero, List.set_cons_succ, i64_w, i32_w]; rfl)
            refine pure_ (i := 4) (N := some 38) (v := ?_) (a' := ?_) #[true, true, false, true, true, false, false, false, false, false, false, false, false, false] rfl rfl (any_of HT_.out (by kernel_rfl)) (fun _ _ _ h => h) (Or.inl ⟨by rfl, ?_⟩) ?_ ?_; (rotate_left; · intro w'; go_simp; with_reducible rfl); (rotate_left; · simp only [Act.put, List.setIfInBounds_toArray, List.set_cons_zero, List.set_cons_succ, i64_w, i32_w]; rfl)
            refine pure_ (i := 8) (N := some 42) (v := ?_) (a' := ?_) #[true, true, false, true, true, false, false, false, true, false, false, false, false, false] rfl rfl (any_of HT_.out (by kernel_rfl)) (fun _ _ _ h => h) (Or.inl ⟨by rfl, ?_⟩) ?_ ?_; (rotate_left; · intro w'; go_simp; with_reducible rfl); (rotate_left; · simp only [Act.put, List.setIfInBounds_toArray, List.set_cons_zero, List.set_cons_succ, i64_w, i32_w]; rfl)
            refine pure_ (i := 9) (N := some 43) (v := ?_) (a' := ?_) #[true, true, false, true, true, false, false, false, true, true, false, false, false, false] rfl rfl (any_of HT_.out (by kernel_rfl)) (fun _ _ _ h => h) (Or.inl ⟨by rfl, ?_⟩) ?_ ?_; (rotate_left; · intro w'; go_simp; with_reducible rfl); (rotate_left; · simp only [Act.put, List.setIfInBounds_toArray, List.set_cons_zero, List.set_cons_succ, i64_w, i32_w]; rfl)
            refine take_ (i := 2) (N := some 36) (v := ?_) (a' := ?_) #[true, true, true, true, true, false, false, false, true, true, false, false, false, false] rfl rfl (take_ofW HT_.out HW_.out (by kernel_rfl)) (fun _ _ _ h => h) (Or.inl ⟨by rfl, ?_⟩) hHeld ?_ ?_; (rotate_left; · rintro w' ⟨s0, s1⟩; go_simp; with_reducible rfl); (rotate_left; · simp only [Act.put, List.setIfInBounds_toArray, List.set_cons_zero, List.set_cons_succ, i64_w, i32_w]; rfl)
            refine take_ (i := 5) (N := some 39) (v := ?_) (a' := ?_) #[true, true, true, true, true, true, false, false, true, true, false, false, false, false] rfl rfl (take_ofW HT_.out HW_.out (by kernel_rfl)) (fun _ _ _ h => h) (Or.inl ⟨by rfl, ?_⟩) hHeld ?_ ?_; (rotate_left; · rintro w' ⟨s0, s1⟩; go_simp; with_reducible rfl); (rotate_left; · simp only [Act.put, List.setIfInBounds_toArray, List.set_cons_zero, List.set_cons_succ, i64_w, i32_w]; rfl)
            refine pure_ (i := 6) (N := some 40) (v := ?_) (a' := ?_) #[true, true, true, true, true, true, true, false, true, true, false, false, false, false] rfl rfl (any_of HT_.out (by kernel_rfl)) (fun _ _ _ h => h) (Or.inl ⟨by rfl, ?_⟩) ?_ ?_; (rotate_left; · intro w'; go_simp; with_reducible rfl); (rotate_left; · simp only [Act.put, List.setIfInBounds_toArray, List.set_cons_zero, List.set_cons_succ, i64_w, i32_w]; rfl)
            refine take_ (i := 7) (N := some 41) (v := ?_) (a' := ?_) #[true, true, true, true, true, true, true, true, true, true, false, false, false, false] rfl rfl (take_ofW HT_.out HW_.out (by kernel_rfl)) (fun _ _ _ h => h) (Or.inl ⟨by rfl, ?_⟩) hHeld ?_ ?_; (rotate_left; · rintro w' ⟨s0, s1⟩; go_simp; with_reducible rfl); (rotate_left; · simp only [Act.put, List.setIfInBounds_toArray, List.set_cons_zero, List.set_cons_succ, i64_w, i32_w]; rfl)
            refine one_ (i := 10) (N := some 44) #[true, true, true, true, true, true, true, true, true, true, true, false, false, false] rfl rfl (one_of HT_.out (by kernel_rfl)) (by decide) (fun K hK => ?_)
            refine value_ (w1 := ?_) (v := ?_) (by rfl) rfl ?_ ?_; (rotate_left 2; · (go_simp; (constructor <;> rfl)))
            refine hK.out _ _ ⟨((HLd.out.alloc _).box_cell (i := 2) rfl 0).trans rfl, (World.cell?_alloc_lt _ _ _ (World.block_lt_of_cell? _ _ hHeld.2)).trans hHeld.2⟩ (fun hHeld => ?_)
            clear hK K; refine norm_ (a' := ?_) ?_ ?_; (rotate_left; · show Act.put _ (some 44) _ = _; simp only [Act.put, List.setIfInBounds_toArray, List.set_cons_zero, List.set_cons_succ, i64_w, i32_w]; rfl)
            refine one_ (i := 11) (N := some 45) #[true, true, true, true, true, true, true, true, true, true, true, true, false, false] rfl rfl (one_of HT_.out (by kernel_rfl)) (by decide) (fun K hK => ?_)
            refine app_step HLd.out (i := 1) rfl (f : Int) (by omega) (by omega) X7.out (wrap64 (2 * (j : Int))) [.int .i64 (wrap64 (2 * (j : Int)))] 41 44 33 (.int .i64 0) 8 (by rfl) rfl Try.underlying33 hi3 rfl (by decide) (by decide) rfl rfl rfl (by rw [show ((f : Int)).toNat = f from rfl]; omega) ?_
            intro A1_ c1_ w1_ q1_ q2_ q3_ q4_; rw [show ((f : Int)).toNat = f from rfl] at q1_ q2_ q4_
            refine hK.out _ _ ⟨(q3_.box_cell (i := 2) rfl 0).trans rfl, q1_⟩ (fun hHeld => ?_)
            clear hK K; refine norm_ (a' := ?_) ?_ ?_; (rotate_left; · show Act.put _ (some 45) _ = _; simp only [Act.put, List.setIfInBounds_toArray, List.set_cons_zero, List.set_cons_succ, i64_w, i32_w]; rfl)
            refine pure_ (i := 12) (N := some 46) (v := ?_) (a' := ?_) #[true, true, true, true, true, true, true, true, true, true, true, true, true, false] rfl rfl (any_of HT_.out (by kernel_rfl)) (fun _ _ _ h => h) (Or.inl ⟨by rfl, ?_⟩) ?_ ?_; (rotate_left; · intro w'; go_simp; with_reducible rfl); (rotate_left; · simp only [Act.put, List.setIfInBounds_toArray, List.set_cons_zero, List.set_cons_succ, i64_w, i32_w]; rfl)
            refine last_ (i := 13) (N := none) #[true, true, true, true, true, true, true, true, true, true, true, true, true, true] rfl rfl (one_of HT_.out (by kernel_rfl)) (by decide) (fun K hK => ?_)
            refine skip_ (w1 := w1_.setCell ⟨g7, f, none⟩ (.slice A1_ ((at_.getD f []).length + 1) c1_)) (by rfl) rfl (by first | (go_simp; done) | (go_simp; rfl)) ?_
            refine hK.out _ _ ?_; clear hK K; refine done_ (done_of HT_.out (by kernel_rfl)) ?_
            rw [HP1.out] at q4_
            have HL := Aside0.mk q4_
            clear q1_ q2_ q3_ q4_ HLd X7 hHeld HT_ HW_
            generalize w1_.setCell ⟨g7, f, none⟩ (.slice A1_ ((at_.getD f []).length + 1) c1_) = w5 at HL ⊢
            go_upto_region 7 with (fail)
            obtain ⟨ad7, A7, c7, e7, x7, -, -⟩ := at_rows (Kd.S_reads' (HL.out.rowS (i := 1) rfl)).2.2 (f' : Int) (by omega) (by omega)
            obtain rfl := Option.some.inj e7
            rw [add_plain, show ((f' : Int)).toNat = f' from rfl] at x7
            have HLd := Aside0.mk HL.out.drew
            have X7 := Aside0.mk (show w5.drew.cell? _ = _ from x7)
            clear HL x7
            refine start_ (n := 15) (S := fun w' => w'.cell? ⟨g9, 1, none⟩ = some (.int .i64 (f' : Int)) ∧ w'.cell? ⟨g7, f', none⟩ = some (.slice A7 (at3.getD f' []).length c7)) (ds := [14]) #[false, false, false, false, false, false, false, false, false, false, false, false, false, false, false] (by kernel_rfl) rfl rfl ⟨(HLd.out.box_cell (i := 2) rfl 1).trans rfl, X7.out⟩ (fun hHeld => ?_); refine with_tabW tab41_7 bits15 (fun HT_ HW_ => ?_)
            generalize w5.drew = wd_ at HLd X7 hHeld ⊢
            refine pure_ (i := 0) (N := some 47) (v := ?_) (a' := ?_) #[true, false, false, false, false, false, false, false, false, false, false, false, false, false, false] rfl rfl (any_of HT_.out (by kernel_rfl)) (fun _ _ _ h => h) (Or.inl ⟨by rfl, ?_⟩) ?_ ?_; (rotate_left; · intro w'; go_simp; with_reducible rfl); (rotate_left; · simp only [Act.put, List.setIfInBounds_toArray, List.set_cons_zero, List.set_cons_succ, i64_w, i32_w]; rfl)
            refine pure_ (i := 1) (N := some 48) (v := ?_) (a' := ?_) #[true, true, false, false, false, false, false, false, false, false, false, false, false, false, false] rfl rfl (any_of HT_.out (by kernel_rfl)) (fun _ _ _ h => h) (Or.inl ⟨by rfl, ?_⟩) ?_ ?_; (rotate_left; · intro w'; go_simp; with_reducible rfl); (rotate_left; · simp only [Act.put, List.setIfInBounds_toArray, List.set_cons_zero, List.set_cons_succ, i64_w, i32_w]; rfl)
            refine pure_ (i := 3) (N := some 50) (v := ?_) (a' := ?_) #[true, true, false, true, false, false, false, false, false, false, false, false, false, false, false] rfl rfl (any_of HT_.out (by kernel_rfl)) (fun _ _ _ h => h) (Or.inl ⟨by rfl, ?_⟩) ?_ ?_; (rotate_left; · intro w'; go_simp; with_reducible rfl); (rotate_left; · simp only [Act.put, List.setIfInBounds_toArray, List.set_cons_zero, List.set_cons_succ, i64_w, i32_w]; rfl)
            refine pure_ (i := 4) (N := some 51) (v := ?_) (a' := ?_) #[true, true, false, true, true, false, false, false, false, false, false, false, false, false, false] rfl rfl (any_of HT_.out (by kernel_rfl)) (fun _ _ _ h => h) (Or.inl ⟨by rfl, ?_⟩) ?_ ?_; (rotate_left; · intro w'; go_simp; with_reducible rfl); (rotate_left; · simp only [Act.put, List.setIfInBounds_toArray, List.set_cons_zero, List.set_cons_succ, i64_w, i32_w]; rfl)
            refine pure_ (i := 8) (N := some 55) (v := ?_) (a' := ?_) #[true, true, false, true, true, false, false, false, true, false, false, false, false, false, false] rfl rfl (any_of HT_.out (by kernel_rfl)) (fun _ _ _ h => h) (Or.inl ⟨by rfl, ?_⟩) ?_ ?_; (rotate_left; · intro w'; go_simp; with_reducible rfl); (rotate_left; · simp only [Act.put, List.setIfInBounds_toArray, List.set_cons_zero, List.set_cons_succ, i64_w, i32_w]; rfl)
            refine pure_ (i := 9) (N := some 56) (v := ?_) (a' := ?_) #[true, true, false, true, true, false, false, false, true, true, false, false, false, false, false] rfl rfl (any_of HT_.out (by kernel_rfl)) (fun _ _ _ h => h) (Or.inl ⟨by rfl, ?_⟩) ?_ ?_; (rotate_left; · intro w'; go_simp; with_reducible rfl); (rotate_left; · simp only [Act.put, List.setIfInBounds_toArray, List.set_cons_zero, List.set_cons_succ, i64_w, i32_w]; rfl)
            refine pure_ (i := 10) (N := some 57) (v := ?_) (a' := ?_) #[true, true, false, true, true, false, false, false, true, true, true, false, false, false, false] rfl rfl (any_of HT_.out (by kernel_rfl)) (fun _ _ _ h => h) (Or.inl ⟨by rfl, ?_⟩) ?_ ?_; (rotate_left; · intro w'; go_simp; with_reducible rfl); (rotate_left; · simp only [Act.put, List.setIfInBounds_toArray, List.set_cons_zero, List.set_cons_succ, i64_w, i32_w]; rfl)
            refine take_ (i := 2) (N := some 49) (v := ?_) (a' := ?_) #[true, true, true, true, true, false, false, false, true, true, true, false, false, false, false] rfl rfl (take_ofW HT_.out HW_.out (by kernel_rfl)) (fun _ _ _ h => h) (Or.inl ⟨by rfl, ?_⟩) hHeld ?_ ?_; (rotate_left; · rintro w' ⟨s0, s1⟩; go_simp; with_reducible rfl); (rotate_left; · simp only [Act.put, List.setIfInBounds_toArray, List.set_cons_zero, List.set_cons_succ, i64_w, i32_w]; rfl)
            refine take_ (i := 5) (N := some 52) (v := ?_) (a' := ?_) #[true, true, true, true, true, true, false, false, true, true, true, false, false, false, false] rfl rfl (take_ofW HT_.out HW_.out (by kernel_rfl)) (fun _ _ _ h => h) (Or.inl ⟨by rfl, ?_⟩) hHeld ?_ ?_; (rotate_left; · rintro w' ⟨s0, s1⟩; go_simp; with_reducible rfl); (rotate_left; · simp only [Act.put, List.setIfInBounds_toArray, List.set_cons_zero, List.set_cons_succ, i64_w, i32_w]; rfl)
            refine pure_ (i := 6) (N := some 53) (v := ?_) (a' := ?_) #[true, true, true, true, true, true, true, false, true, true, true, false, false, false, false] rfl rfl (any_of HT_.out (by kernel_rfl)) (fun _ _ _ h => h) (Or.inl ⟨by rfl, ?_⟩) ?_ ?_; (rotate_left; · intro w'; go_simp; with_reducible rfl); (rotate_left; · simp only [Act.put, List.setIfInBounds_toArray, List.set_cons_zero, List.set_cons_succ, i64_w, i32_w]; rfl)
            refine take_ (i := 7) (N := some 54) (v := ?_) (a' := ?_) #[true, true, true, true, true, true, true, true, true, true, true, false, false, false, false] rfl rfl (take_ofW HT_.out HW_.out (by kernel_rfl)) (fun _ _ _ h => h) (Or.inl ⟨by rfl, ?_⟩) hHeld ?_ ?_; (rotate_left; · rintro w' ⟨s0, s1⟩; go_simp; with_reducible rfl); (rotate_left; · simp only [Act.put, List.setIfInBounds_toArray, List.set_cons_zero, List.set_cons_succ, i64_w, i32_w]; rfl)
            refine one_ (i := 11) (N := some 58) #[true, true, true, true, true, true, true, true, true, true, true, true, false, false, false] rfl rfl (one_of HT_.out (by kernel_rfl)) (by decide) (fun K hK => ?_)
            refine value_ (w1 := ?_) (v := ?_) (by rfl) rfl ?_ ?_; (rotate_left 2; · (go_simp; (constructor <;> rfl)))
            refine hK.out _ _ ⟨((HLd.out.alloc _).box_cell (i := 2) rfl 1).trans rfl, (World.cell?_alloc_lt _ _ _ (World.block_lt_of_cell? _ _ hHeld.2)).trans hHeld.2⟩ (fun hHeld => ?_)
            clear hK K; refine norm_ (a' := ?_) ?_ ?_; (rotate_left; · show Act.put _ (some 58) _ = _; simp only [Act.put, List.setIfInBounds_toArray, List.set_cons_zero, List.set_cons_succ, i64_w, i32_w]; rfl)
            refine one_ (i := 12) (N := some 59) #[true, true, true, true, true, true, true, true, true, true, true, true, true, false, false] rfl rfl (one_of HT_.out (by kernel_rfl)) (by decide) (fun K hK => ?_)
            refine app_step HLd.out (i := 1) rfl (f' : Int) (by omega) (by omega) X7.out (wrap64 (wrap64 (2 * (j : Int)) + 1)) [.int .i64 (wrap64 (wrap64 (2 * (j : Int)) + 1))] 54 58 33 (.int .i64 0) 8 (by rfl) rfl Try.underlying33 hi3 rfl (by decide) (by decide) rfl rfl rfl (by rw [show ((f' : Int)).toNat = f' from rfl]; omega) ?_
            intro A1_ c1_ w1_ q1_ q2_ q3_ q4_; rw [show ((f' : Int)).toNat = f' from rfl] at q1_ q2_ q4_
            refine hK.out _ _ ⟨(q3_.box_cell (i := 2) rfl 1).trans rfl, q1_⟩ (fun hHeld => ?_)
            clear hK K; refine norm_ (a' := ?_) ?_ ?_; (rotate_left; · show Act.put _ (some 59) _ = _; simp only [Act.put, List.setIfInBounds_toArray, List.set_cons_zero, List.set_cons_succ, i64_w, i32_w]; rfl)
            refine pure_ (i := 13) (N := some 60) (v := ?_) (a' := ?_) #[true, true, true, true, true, true, true, true, true, true, true, true, true, true, false] rfl rfl (any_of HT_.out (by kernel_rfl)) (fun _ _ _ h => h) (Or.inl ⟨by rfl, ?_⟩) ?_ ?_; (rotate_left; · intro w'; go_simp; with_reducible rfl); (rotate_left; · simp only [Act.put, List.setIfInBounds_toArray, List.set_cons_zero, List.set_cons_succ, i64_w, i32_w]; rfl)
            refine last_ (i := 14) (N := none) #[true, true, true, true, true, true, true, true, true, true, true, true, true, true, true] rfl rfl (one_of HT_.out (by kernel_rfl)) (by decide) (fun K hK => ?_)
            refine skip_ (w1 := w1_.setCell ⟨g7, f', none⟩ (.slice A1_ ((at3.getD f' []).length + 1) c1_)) (by rfl) rfl (by first | (go_simp; done) | (go_simp; rfl)) ?_
            refine hK.out _ _ ?_; clear hK K; refine done_ (done_of HT_.out (by kernel_rfl)) ?_
            rw [HP2.out] at q4_
            have HL := Aside0.mk q4_
            clear q1_ q2_ q3_ q4_ HLd X7 hHeld HT_ HW_
            generalize w1_.setCell ⟨g7, f', none⟩ (.slice A1_ ((at3.getD f' []).length + 1) c1_) = w6 at HL ⊢
            go_wp2
            go_roundg g2
            case measure => omega
            case rel => exact ⟨j + 1, at4, by go_num, ⟨by have := HK.out; omega⟩, ⟨HAT.out, hal4⟩, ⟨HL.out.drop_last⟩⟩
          · cases hp2
        · cases hp1
  · cases h
end Go.Proofs.Ytidomjhihfoabaa.PF
