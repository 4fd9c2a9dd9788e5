/- The closure of flow.Least: does enough flow if the free arcs have the capacity c? -/
import Derived.Test.YtidomjhihfoabaaHSG
import Derived.Test.YtidomjhihfoabaaHClone
namespace Go.Proofs.Ytidomjhihfoabaa.PF
open Go Go.RowKit Go.Lib Go.Proofs.YtidomjhihfoabaaW.PrintWords Go.Proofs.YtidomjhihfoabaaW.PrintLast Go.Proofs.Ytidomjhihfoabaa.Lv
set_option linter.unusedVariables false
set_option linter.unusedSimpArgs false

def T47_1 : Bool × List (List Nat × List Nat) := (true, [([], []), ([0], [0]), ([], []), ([2], [2]), ([3], [3]), ([1, 4], [1, 4]), ([], []), ([6, 5, 4, 0, 1, 2, 3, 4, 5, 6], [5, 6])])
def B47_1 : List Nat := [0, 1, 0, 4, 12, 31, 0, 127]
theorem tab47_1 : rtab .any (opsOf Try.f47 1) = T47_1 := by kernel_rfl
theorem bits47_1 : waitsOk T47_1.2 B47_1 = true := by kernel_rfl
def T47_7 : Bool × List (List Nat × List Nat) := (true, [([], []), ([], []), ([], []), ([0, 1, 2], [0, 1, 2]), ([3], [3]), ([], []), ([4, 5], [4, 5]), ([6, 3, 0, 1, 2, 3, 4, 5, 6], [6])])
def B47_7 : List Nat := [0, 0, 0, 7, 15, 0, 63, 127]
theorem tab47_7 : rtab .any (opsOf Try.f47 7) = T47_7 := by kernel_rfl
theorem bits47_7 : waitsOk T47_7.2 B47_7 = true := by kernel_rfl

/-- the free arcs get the capacity c -/
def lsPut (c : Int) : List Int → List S36 → Option (List S36)
  | [], m => some m
  | i :: is, m => if 0 ≤ i ∧ i < (m.length : Int) then lsPut c is (m.set i.toNat ⟨(rd_T36 m i).f0, (rd_T36 m i).f1, c⟩) else none
def lsEnough (k : Nat) (n : Int) (l : List S36) (s t need : Int) (free : List Int) (c : Int) : Option Bool :=
  if l.length * 24 ≤ 140737488355328 ∧ free.length < 4611686018427387904 then (lsPut c free l).bind fun m => (flow_greatest.f k n m s t).bind fun r => some (decide (r.1 ≥ need)) else none
theorem lsPut_len (c : Int) : ∀ (is : List Int) (m m' : List S36), lsPut c is m = some m' → m'.length = m.length
  | [], m, m', h => by rw [← Option.some.inj h]
  | i :: is, m, m', h => by
    rw [lsPut] at h
    split at h
    · rw [lsPut_len c is _ _ h, List.length_set]
    · cases h
theorem cap_M {W : World} {base : Nat} {xs : List S36} {j : Nat} {cv : Int} (hj : j < xs.length) (c : List Value) (hc : c.length = k36.sz) (hK : k36.K W (xs.getD j ⟨(rd_T36 xs (j : Int)).f0, (rd_T36 xs (j : Int)).f1, cv⟩) c) :
    k36.M W base (fun _ => False) ⟨(rd_T36 xs (j : Int)).f0, (rd_T36 xs (j : Int)).f1, cv⟩ (c.take 2 ++ [.int .i64 cv] ++ c.drop (2 + 1)) := by
  obtain rfl := k36_open hK
  have e : ∀ d : S36, xs.getD j d = rd_T36 xs (j : Int) := fun d => by simp [rd_T36, List.getD, hj]
  rw [e]
  exact k36_mkM _ _ _ _

set_option maxHeartbeats 4000000 in
set_option maxRecDepth 100000 in
theorem least1_calls (k : Nat) (n : Int) (A : Option Addr) (c0 : Nat) (l : List S36) (s t need : Int) (A4 : Option Addr) (c4 : Nat) (free : List Int) (g5 g6 g7 g8 g9 : Nat) (c : Int) (b : Bool) (w : World)
    (hr : Kd.C k36 w A l.length l) (hr4 : Kd.C (Kd.int .i64) w A4 free.length free)
    (h5 : w.heap[g5]? = some (.cells #[.int .i64 n, .slice A l.length c0] 24 (0, 0))) (h9 : w.heap[g9]? = some (.cells #[.slice A4 free.length c4] 33 (0, 0)))
    (h6 : w.heap[g6]? = some (.cells #[.int .i64 s] 3 (0, 0))) (h7 : w.heap[g7]? = some (.cells #[.int .i64 t] 3 (0, 0))) (h8 : w.heap[g8]? = some (.cells #[.int .i64 need] 3 (0, 0)))
    (h : lsEnough k n l s t need free c = some b) :
    Calls Try.prog 47 #[.int .i64 c, .pointer (some ⟨g5, 0, none⟩), .pointer (some ⟨g9, 0, none⟩), .pointer (some ⟨g6, 0, none⟩), .pointer (some ⟨g7, 0, none⟩), .pointer (some ⟨g8, 0, none⟩)] w fun e w' => e = .returned (.bool b) ∧ Below w.heap.size w w' := by
  have hu24 := Try.underlying24
  have hu36 := Try.underlying36
  have hu39 := Try.underlying39
  have HR := Aside0.mk hr
  have HR4 := Aside0.mk hr4
  have o50 := blk_cell h5 0
  have o51 := blk_cell h5 1
  have o9 := blk_cell h9 0
  have o6 := blk_cell h6 0
  have o7 := blk_cell h7 0
  have o8 := blk_cell h8 0
  have O := Aside0.mk (And.intro o50 (And.intro o51 (And.intro o9 (And.intro o6 (And.intro o7 o8)))))
  clear hr hr4 o50 o51 o9 o6 o7 o8 h5 h6 h7 h8 h9
  unfold lsEnough at h
  split at h
  · rename_i hg
    obtain ⟨hlen, hfl⟩ := hg
    obtain ⟨m, hput, h1⟩ := Option.bind_eq_some_iff.1 h
    obtain ⟨⟨q1, q2, q3⟩, hgr, h2⟩ := Option.bind_eq_some_iff.1 h1
    obtain rfl := Option.some.inj h2
    have hml := lsPut_len _ _ _ _ hput
    have HP := Aside0.mk hput
    have HG := Aside0.mk hgr
    clear h h1 h2 hput hgr
    simp only
    have HL := Aside0.mk (((Live.nil w).add (Below.refl _ _) Emp trivial).add (Below.refl _ _) Emp trivial)
    go_enter Try.func47, Try.ntmps47
    go_upto_region 1 with (fail)
    replace HL := HL.out.drew
    refine start_ (n := 8) (S := fun w' => w'.cell? ⟨g5, 0, none⟩ = some (.int .i64 n) ∧ w'.cell? ⟨g5, 1, none⟩ = some (.slice A l.length c0)) (ds := []) #[false, false, false, false, false, false, false, false] (by kernel_rfl) rfl rfl ⟨HL.old O.out.1, HL.old O.out.2.1⟩ (fun hHeld => ?_); refine with_tabW tab47_1 bits47_1 (fun HT_ HW_ => ?_)
    generalize w.drew = wd_ at HL hHeld ⊢
    refine pure_ (i := 0) (N := some 11) (v := ?_) (a' := ?_) #[true, false, false, false, false, false, false, false] rfl rfl (any_of HT_.out (by kernel_rfl)) (fun _ _ _ h => h) (Or.inl ⟨by rfl, ?_⟩) ?_ ?_; (rotate_left; · intro w'; go_simp; with_reducible rfl); (rotate_left; · simp only [Act.put, List.setIfInBounds_toArray, List.set_cons_zero, List.set_cons_succ, i64_w, i32_w]; rfl)
    refine pure_ (i := 2) (N := some 13) (v := ?_) (a' := ?_) #[true, false, true, false, false, false, false, false] rfl rfl (any_of HT_.out (by kernel_rfl)) (fun _ _ _ h => h) (Or.inl ⟨by rfl, ?_⟩) ?_ ?_; (rotate_left; · intro w'; go_simp; with_reducible rfl); (rotate_left; · simp only [Act.put, List.setIfInBounds_toArray, List.set_cons_zero, List.set_cons_succ, i64_w, i32_w]; rfl)
    refine take_ (i := 1) (N := some 12) (v := ?_) (a' := ?_) #[true, true, true, false, false, false, false, false] rfl rfl (take_ofW HT_.out HW_.out (by kernel_rfl)) (fun _ _ _ h => h) (Or.inl ⟨by rfl, ?_⟩) hHeld ?_ ?_; (rotate_left; · rintro w' ⟨s0, s1⟩; go_simp; with_reducible rfl); (rotate_left; · simp only [Act.put, List.setIfInBounds_toArray, List.set_cons_zero, List.set_cons_succ, i64_w, i32_w]; rfl)
    refine take_ (i := 3) (N := some 14) (v := ?_) (a' := ?_) #[true, true, true, true, false, false, false, false] rfl rfl (take_ofW HT_.out HW_.out (by kernel_rfl)) (fun _ _ _ h => h) (Or.inl ⟨by rfl, ?_⟩) hHeld ?_ ?_; (rotate_left; · rintro w' ⟨s0, s1⟩; go_simp; with_reducible rfl); (rotate_left; · simp only [Act.put, List.setIfInBounds_toArray, List.set_cons_zero, List.set_cons_succ, i64_w, i32_w]; rfl)
    refine join_ (σ := Value × Nat) 1 #[true, true, true, true, true, true, true, false] (fun s_ => [(15, s_.1), (16, .agg #[.int .i64 n, s_.1]), (8, .pointer (some ⟨s_.2, 0, none⟩))]) (fun s_ w' => Live w w' [Row w.heap.size k36 36 s_.1 l, Box s_.2 #[.int .i64 0, .slice none 0 0] 24] ∧ w.heap.size ≤ s_.2) ?_ ?_
    rotate_left
    · intro hJ_
      refine two_ (i := 4) (j := 6) (Ni := some 15) (Nj := some 8) #[true, true, true, true, true, false, false, false] #[true, true, true, true, false, false, true, false] rfl rfl rfl rfl (two_of HT_.out (by kernel_rfl)) (by decide) (by decide) (fun K hK => ?_) (fun K hK => ?_)
      · skip
        refine goes_ Try.func48 (by kernel_rfl) rfl #[.slice A l.length c0] (by rfl) rfl rfl (by (try simp only [List.map_toArray, List.map_cons, List.map_nil]); first | done | rfl) ?_
        with_reducible refine (clone36_calls A c0 l _ ?side1 hlen).mono ?_
        (case side1 => exact Kd.C_below HR.out HL.hb)
        rintro e wA ⟨vA, rfl, ho, hb⟩
        refine ⟨_, rfl, ?_⟩
        have HL2 := HL.fill_row (i := 0) rfl ho hb; clear ho hb
        refine hK.out _ _ ⟨HL2.old O.out.1, HL2.old O.out.2.1⟩ (fun hHeld => ?_)
        clear hK K; refine norm_ (a' := ?_) ?_ ?_; (rotate_left; · show Act.put _ (some 15) _ = _; simp only [Act.put, List.setIfInBounds_toArray, List.set_cons_zero, List.set_cons_succ, i64_w, i32_w]; rfl)
        clear HL; have HL := HL2; clear HL2
        obtain ⟨A_, c_, e_⟩ := Kd.R_slice (HL.row (i := 0) rfl)
        subst e_
        refine pure_ (i := 5) (N := some 16) (v := ?_) (a' := ?_) #[true, true, true, true, true, true, false, false] rfl rfl (any_of HT_.out (by kernel_rfl)) (fun _ _ _ h => h) (Or.inl ⟨by rfl, ?_⟩) ?_ ?_; (rotate_left; · intro w'; go_simp; with_reducible rfl); (rotate_left; · simp only [Act.put, List.setIfInBounds_toArray, List.set_cons_zero, List.set_cons_succ, i64_w, i32_w]; rfl)
        refine one_ (i := 6) (N := some 8) #[true, true, true, true, true, true, true, false] rfl rfl (one_of HT_.out (by kernel_rfl)) (by decide) (fun K hK => ?_)
        have HS_ := HL.size
        refine value_ (w1 := ?_) (v := ?_) (by rfl) rfl ?_ ?_; (rotate_left 2; · (go_simp; (constructor <;> rfl)))
        have HL2 := HL.fill_box (i := 1) rfl #[.int .i64 0, .slice none 0 0] 24
        refine hK.out _ _ ⟨HL2.old O.out.1, HL2.old O.out.2.1⟩ (fun hHeld => ?_); clear hK K
        exact norm_ (by first | (simp only [putAll, Act.put, List.setIfInBounds_toArray, List.set_cons_zero, List.set_cons_succ]; done) | (simp only [putAll, Act.put, List.setIfInBounds_toArray, List.set_cons_zero, List.set_cons_succ]; rfl)) (hJ_ (⟨_, _⟩) _ ⟨HL2, HL.size⟩)
      · skip
        have HS_ := HL.size
        refine value_ (w1 := ?_) (v := ?_) (by rfl) rfl ?_ ?_; (rotate_left 2; · (go_simp; (constructor <;> rfl)))
        have HL2 := HL.fill_box (i := 1) rfl #[.int .i64 0, .slice none 0 0] 24
        refine hK.out _ _ ⟨HL2.old O.out.1, HL2.old O.out.2.1⟩ (fun hHeld => ?_)
        clear hK K; refine norm_ (a' := ?_) ?_ ?_; (rotate_left; · show Act.put _ (some 8) _ = _; simp only [Act.put, List.setIfInBounds_toArray, List.set_cons_zero, List.set_cons_succ, i64_w, i32_w]; rfl)
        clear HL; have HL := HL2; clear HL2
        refine one_ (i := 4) (N := some 15) #[true, true, true, true, true, false, true, false] rfl rfl (one_of HT_.out (by kernel_rfl)) (by decide) (fun K hK => ?_)
        refine goes_ Try.func48 (by kernel_rfl) rfl #[.slice A l.length c0] (by rfl) rfl rfl (by (try simp only [List.map_toArray, List.map_cons, List.map_nil]); first | done | rfl) ?_
        with_reducible refine (clone36_calls A c0 l _ ?side1 hlen).mono ?_
        (case side1 => exact Kd.C_below HR.out HL.hb)
        rintro e wA ⟨vA, rfl, ho, hb⟩
        refine ⟨_, rfl, ?_⟩
        have HL2 := HL.fill_row (i := 0) rfl ho hb; clear ho hb
        refine hK.out _ _ ⟨HL2.old O.out.1, HL2.old O.out.2.1⟩ (fun hHeld => ?_)
        clear hK K; refine norm_ (a' := ?_) ?_ ?_; (rotate_left; · show Act.put _ (some 15) _ = _; simp only [Act.put, List.setIfInBounds_toArray, List.set_cons_zero, List.set_cons_succ, i64_w, i32_w]; rfl)
        clear HL; have HL := HL2; clear HL2
        obtain ⟨A_, c_, e_⟩ := Kd.R_slice (HL.row (i := 0) rfl)
        subst e_
        have HL2 := HL
        refine pure_ (i := 5) (N := some 16) (v := ?_) (a' := ?_) #[true, true, true, true, true, true, true, false] rfl rfl (any_of HT_.out (by kernel_rfl)) (fun _ _ _ h => h) (Or.inl ⟨by rfl, ?_⟩) ?_ ?_; (rotate_left; · intro w'; go_simp; with_reducible rfl); (rotate_left; · simp only [Act.put, List.setIfInBounds_toArray, List.set_cons_zero, List.set_cons_succ, i64_w, i32_w]; rfl)
        exact norm_ (by first | (simp only [putAll, Act.put, List.setIfInBounds_toArray, List.set_cons_zero, List.set_cons_succ]; done) | (simp only [putAll, Act.put, List.setIfInBounds_toArray, List.set_cons_zero, List.set_cons_succ]; rfl)) (hJ_ (⟨_, _⟩) _ ⟨HL2, HS_⟩)
    clear HL hHeld; rintro ⟨vA, gC⟩ wj ⟨HL, GC⟩
    refine norm_ (a' := ?_) ?_ ?_; (rotate_left; · simp only [putAll, Act.put, List.setIfInBounds_toArray, List.set_cons_zero, List.set_cons_succ]; rfl)
    obtain ⟨A15, c15, e_⟩ := Kd.R_slice (HL.row (i := 0) rfl)
    subst e_
    have f8 := HL.box_fz (i := 1) rfl
    have b8 := HL.box_cell (i := 1) rfl
    refine one_ (i := 7) (N := none) #[true, true, true, true, true, true, true, true] rfl rfl (one_of HT_.out (by kernel_rfl)) (by decide) (fun K hK => ?_)
    refine skip_ (w1 := (wj.setCell ⟨gC, 0, none⟩ (.int .i64 n)).setCell ⟨gC, 1, none⟩ (.slice A15 l.length c15)) (by rfl) rfl (by first | (go_simp; done) | (go_simp; rfl)) ?_
    have HL2 := (HL.setbox (i := 1) rfl GC 0 (.int .i64 n)).setbox (i := 1) rfl GC 1 (.slice A15 l.length c15)
    refine hK.out _ _ ⟨HL2.old O.out.1, HL2.old O.out.2.1⟩ (fun hHeld => ?_); clear hK K
    clear HL f8 b8 hHeld
    have HL := Aside0.mk HL2
    clear HL2
    generalize (wj.setCell ⟨gC, 0, none⟩ (.int .i64 n)).setCell ⟨gC, 1, none⟩ (.slice A15 l.length c15) = w7 at HL ⊢
    refine done_ (done_of HT_.out (by kernel_rfl)) ?_
    clear HT_ HW_
    have x9 := HL.out.old O.out.2.2.1
    go_wp2
    clear x9
    go_loopg [19] free.length (fun gk v19 wr => ∃ (j : Nat) (ms : List S36), v19 = .int .i64 (j : Int) ∧ Aside0 (free.length = j + gk) ∧ Aside0 (lsPut c (free.drop j) ms = some m) ∧ Aside0 (ms.length = l.length) ∧ Aside0 (Live w wr [Row w.heap.size k36 36 (.slice A15 l.length c15) ms, Box gC #[.int .i64 n, .slice A15 l.length c15] 24]))
    case atStart => exact ⟨0, l, rfl, ⟨by omega⟩, HP, ⟨rfl⟩, HL⟩
    case round =>
      clear HL HP
      obtain ⟨j, ms, rfl, HK, HP, HM, HL⟩ := hrel
      cases gk with
      | zero =>
        have hj : decide (j < free.length) = false := decide_eq_false (by have := HK.out; omega)
        have hfin : ms = m := by
          have h1 := HP.out
          rw [List.drop_of_length_le (by have := HK.out; omega)] at h1
          exact Option.some.inj h1
        subst hfin
        clear HP HK
        have hfd : ∀ (v1 v2 : Value) (w : World), (Instr.field 39 (.agg #[.int .i64 q1, v1, v2]) 0).run Try.prog w = .ok (.int .i64 q1) w := fun _ _ _ => by kernel_rfl
        go_upto_region 7 with (fail)
        replace HL := HL.out.drew
        refine start_ (n := 8) (S := fun w' => w'.cell? ⟨gC, 0, none⟩ = some (.int .i64 n) ∧ w'.cell? ⟨gC, 1, none⟩ = some (.slice A15 l.length c15) ∧ w'.cell? ⟨g6, 0, none⟩ = some (.int .i64 s) ∧ w'.cell? ⟨g7, 0, none⟩ = some (.int .i64 t) ∧ w'.cell? ⟨g8, 0, none⟩ = some (.int .i64 need)) (ds := []) #[false, false, false, false, false, false, false, false] (by kernel_rfl) rfl rfl ⟨(HL.box_cell (i := 1) rfl 0).trans rfl, (HL.box_cell (i := 1) rfl 1).trans rfl, HL.old O.out.2.2.2.1, HL.old O.out.2.2.2.2.1, HL.old O.out.2.2.2.2.2⟩ (fun hHeld => ?_); refine with_tabW tab47_7 bits47_7 (fun HT_ HW_ => ?_)
        generalize wr.drew = wd_ at HL hHeld ⊢
        refine take_ (i := 0) (N := some 30) (v := ?_) (a' := ?_) #[true, false, false, false, false, false, false, false] rfl rfl (take_ofW HT_.out HW_.out (by kernel_rfl)) (fun _ _ _ h => h) (Or.inl ⟨by rfl, ?_⟩) hHeld ?_ ?_; (rotate_left; · rintro w' ⟨s0, s1, s2, s3, s4⟩; go_simp; with_reducible rfl); (rotate_left; · simp only [Act.put, List.setIfInBounds_toArray, List.set_cons_zero, List.set_cons_succ, i64_w, i32_w]; rfl)
        refine take_ (i := 1) (N := some 31) (v := ?_) (a' := ?_) #[true, true, false, false, false, false, false, false] rfl rfl (take_ofW HT_.out HW_.out (by kernel_rfl)) (fun _ _ _ h => h) (Or.inl ⟨by rfl, ?_⟩) hHeld ?_ ?_; (rotate_left; · rintro w' ⟨s0, s1, s2, s3, s4⟩; go_simp; with_reducible rfl); (rotate_left; · simp only [Act.put, List.setIfInBounds_toArray, List.set_cons_zero, List.set_cons_succ, i64_w, i32_w]; rfl)
        refine take_ (i := 2) (N := some 32) (v := ?_) (a' := ?_) #[true, true, true, false, false, false, false, false] rfl rfl (take_ofW HT_.out HW_.out (by kernel_rfl)) (fun _ _ _ h => h) (Or.inl ⟨by rfl, ?_⟩) hHeld ?_ ?_; (rotate_left; · rintro w' ⟨s0, s1, s2, s3, s4⟩; go_simp; with_reducible rfl); (rotate_left; · simp only [Act.put, List.setIfInBounds_toArray, List.set_cons_zero, List.set_cons_succ, i64_w, i32_w]; rfl)
        refine take_ (i := 5) (N := some 35) (v := ?_) (a' := ?_) #[true, true, true, false, false, true, false, false] rfl rfl (take_ofW HT_.out HW_.out (by kernel_rfl)) (fun _ _ _ h => h) (Or.inl ⟨by rfl, ?_⟩) hHeld ?_ ?_; (rotate_left; · rintro w' ⟨s0, s1, s2, s3, s4⟩; go_simp; with_reducible rfl); (rotate_left; · simp only [Act.put, List.setIfInBounds_toArray, List.set_cons_zero, List.set_cons_succ, i64_w, i32_w]; rfl)
        refine one_ (i := 3) (N := some 33) #[true, true, true, true, false, true, false, false] rfl rfl (one_of HT_.out (by kernel_rfl)) (by decide) (fun K hK => ?_)
        have HC := flow_greatest.calls k n A15 c15 ms s t q1 q2 q3 wd_ (Kd.R_reads' (HL.row (i := 0) rfl)).2.2 (by rw [hml]; exact (Kd.R_reads' (HL.row (i := 0) rfl)).2.1) HG.out
        rw [hml] at HC
        refine goes_ Try.func40 (by kernel_rfl) rfl #[.agg #[.int .i64 n, .slice A15 l.length c15], .int .i64 s, .int .i64 t] (by rfl) rfl rfl (by (try simp only [List.map_toArray, List.map_cons, List.map_nil]); first | done | rfl) ?_
        refine HC.mono ?_
        rintro e wA ⟨v1, v2, rfl, ho1, ho2, hb⟩
        refine ⟨_, rfl, ?_⟩
        have HL2 := HL.same hb; clear ho1 ho2 hb HC
        refine hK.out _ _ ⟨(HL2.box_cell (i := 1) rfl 0).trans rfl, (HL2.box_cell (i := 1) rfl 1).trans rfl, HL2.old O.out.2.2.2.1, HL2.old O.out.2.2.2.2.1, HL2.old O.out.2.2.2.2.2⟩ (fun hHeld => ?_)
        clear hK K; refine norm_ (a' := ?_) ?_ ?_; (rotate_left; · show Act.put _ (some 33) _ = _; simp only [Act.put, List.setIfInBounds_toArray, List.set_cons_zero, List.set_cons_succ, i64_w, i32_w]; rfl)
        clear HL; have HL := HL2; clear HL2
        refine pure_ (i := 4) (N := some 34) (v := ?_) (a' := ?_) #[true, true, true, true, true, true, false, false] rfl rfl (any_of HT_.out (by kernel_rfl)) (fun _ _ _ h => h) (Or.inl ⟨by rfl, ?_⟩) ?_ ?_; (rotate_left; · intro w'; go_simp; with_reducible rfl); (rotate_left; · simp only [Act.put, List.setIfInBounds_toArray, List.set_cons_zero, List.set_cons_succ, i64_w, i32_w]; rfl)
        refine pure_ (i := 6) (N := some 36) (v := ?_) (a' := ?_) #[true, true, true, true, true, true, true, false] rfl rfl (any_of HT_.out (by kernel_rfl)) (fun _ _ _ h => h) (Or.inl ⟨by rfl, ?_⟩) ?_ ?_; (rotate_left; · intro w'; go_simp; with_reducible rfl); (rotate_left; · simp only [Act.put, List.setIfInBounds_toArray, List.set_cons_zero, List.set_cons_succ, i64_w, i32_w]; rfl)
        refine pure_ (i := 7) (N := some 7) (v := ?_) (a' := ?_) #[true, true, true, true, true, true, true, true] rfl rfl (any_of HT_.out (by kernel_rfl)) (fun _ _ _ h => h) (Or.inl ⟨by rfl, ?_⟩) ?_ ?_; (rotate_left; · intro w'; go_simp; with_reducible rfl); (rotate_left; · simp only [Act.put, List.setIfInBounds_toArray, List.set_cons_zero, List.set_cons_succ, i64_w, i32_w]; rfl)
        refine done_ (done_of HT_.out (by kernel_rfl)) ?_
        clear HT_ HW_
        go_wp2
        go_ret
        exact ⟨rfl, HL.hb⟩
      | succ g2 =>
        have hj : decide (j < free.length) = true := decide_eq_true (by have := HK.out; omega)
        have hjz : (j : Int) < (free.length : Int) := by have := HK.out; omega
        have hjb : j + 1 < 9223372036854775808 := by have := HK.out; omega
        obtain ⟨ad, e, xa⟩ := Kd.at_int HR4.out (j : Int) (by omega) hjz
        subst e
        rw [show ((j : Int)).toNat = j from rfl] at xa
        have HD := Aside0.mk (show free.drop j = rd free (j : Int) :: free.drop (j + 1) by
          have hk : j < free.length := by omega
          rw [List.drop_eq_getElem_cons hk]; simp [rd, List.getD, hk])
        generalize rd free (j : Int) = x at xa HD
        have h1 := HP.out
        rw [HD.out, lsPut] at h1
        clear HP HD
        split at h1
        · rename_i hx
          obtain ⟨y0, y1⟩ := hx
          obtain ⟨f, rfl⟩ : ∃ f : Nat, x = (f : Int) := ⟨x.toNat, by omega⟩
          rw [show ((f : Int)).toNat = f from rfl] at h1
          have HP := Aside0.mk h1
          clear h1
          replace xa := HL.out.old xa
          have y2 : (f : Int) < (l.length : Int) := by have := HM.out; omega
          have y3 : f < ms.length := by omega
          obtain ⟨ga, pa, ea, -, -, -⟩ := Kd.R_form (HL.out.row (i := 0) rfl) (by have := HM.out; omega)
          injection ea with ea1 ea2 ea3
          subst ea1 ea3
          clear ea2
          obtain ⟨cs, hcl, hM, hcc, hfr⟩ := Kd.R_elem (HL.out.row (i := 0) rfl) z36 (f : Int) (by omega) y2
          obtain rfl := k36_openM hM
          have hx2 : wr.cell? ⟨ga, f * 3 + 2, none⟩ = some (.int .i64 (rd_T36 ms (f : Int)).f2) := hcc 2 _ rfl
          have hf2 : wr.frozen? ⟨ga, f * 3 + 2, none⟩ = false := hfr 2
          clear hcl hM hcc hfr
          have b8 : wr.cell? ⟨gC, 1, none⟩ = some (.slice (some ⟨ga, 0, none⟩) l.length c15) := (HL.out.box_cell (i := 1) rfl 1).trans rfl
          go_wp2_with (first
            | ((with_reducible refine gate_store (t := 3) (p := 28) rfl ?_); refine ev_set HL (fun h => h.seg1 (i := 0) rfl (f : Int) (by omega) y2 2 (by decide) (.int .i64 c) _ (fun cs' h1 h2 => cap_M y3 cs' h1 h2)) 3 28 rfl rfl rfl ?hr ?_; (case hr => first | (go_simp; done) | (go_simp; rfl)); intro w8 HL1; clear HL hx2 hf2 b8 xa; have HL := HL1; clear HL1)
            )
          go_roundg g2
          case measure => omega
          case rel => exact ⟨j + 1, _, by go_num, ⟨by have := HK.out; omega⟩, HP, ⟨by rw [List.length_set]; exact HM.out⟩, HL⟩
        · cases h1
  · cases h
end Go.Proofs.Ytidomjhihfoabaa.PF
