/- flow.Routes: what its call does, as a plain function on lists. -/
import Derived.Test.YtidomjhihfoabaaHNext
import Derived.Test.YtidomjhihfoabaaHClone
import Derived.Test.YtidomjhihfoabaaPFx24
namespace Go.Proofs.Ytidomjhihfoabaa.PF
open Go Go.RowKit Go.Lib Go.Proofs.YtidomjhihfoabaaW.PrintWords Go.Proofs.YtidomjhihfoabaaW.PrintLast Go.Proofs.YtidomjhihfoabaaW.PrintMore Go.Proofs.Ytidomjhihfoabaa.Lv
attribute [local go_sem] max2_int min2_int max_two min_two max_three min_three max_four min_four
set_option linter.unusedVariables false
set_option linter.unusedSimpArgs false

theorem hi33 : (Try.prog.info? 33).map (fun i => (i.zero, i.size, i.bytes)) = some (some (.slice none 0 0), 1, 24) := by kernel_rfl
theorem hi63 : (Try.prog.info? 63).map (fun i => (i.zero, i.size, i.bytes)) = some (some (.agg #[.slice none 0 0, .int .i64 0]), 2, 32) := by kernel_rfl
def T30_10 : Bool × List (List Nat × List Nat) := (true, [([], []), ([], []), ([1], [1]), ([], []), ([], []), ([4], [4]), ([3, 5], [3, 5]), ([6], [6]), ([], []), ([8], [8]), ([7, 9], [7, 9]), ([0, 2, 0, 1, 2, 3, 4, 5, 6, 7, 8, 9, 10], [0, 2]), ([11, 10, 10, 0, 1, 2, 3, 4, 5, 6, 7, 8, 9, 10], [10, 11])])
def B30_10 : List Nat := [0, 0, 2, 0, 0, 16, 56, 120, 0, 256, 1016, 2047, 4095]
theorem tab30_10 : rtab .any (opsOf Try.f30 10) = T30_10 := by kernel_rfl
theorem bits30_10 : waitsOk T30_10.2 B30_10 = true := by kernel_rfl
def T30_30 : Bool × List (List Nat × List Nat) := (true, [([], []), ([], []), ([1], [1]), ([2], [2]), ([0, 3], [0, 3]), ([4], [4]), ([5, 0, 1, 2, 3, 4, 5], [5])])
def B30_30 : List Nat := [0, 0, 2, 6, 15, 31, 63]
theorem tab30_30 : rtab .any (opsOf Try.f30 30) = T30_30 := by kernel_rfl
theorem bits30_30 : waitsOk T30_30.2 B30_30 = true := by kernel_rfl
def T30_41 : Bool × List (List Nat × List Nat) := (true, [([], []), ([0], [0]), ([], []), ([2], [2]), ([3], [3]), ([1, 4], [1, 4]), ([5], [5]), ([6], [6]), ([], []), ([7, 8], [7, 8]), ([9], [9]), ([10], [10]), ([10], [10]), ([11, 12, 10], [10, 11, 12]), ([10, 13], [10, 13])])
def B30_41 : List Nat := [0, 1, 0, 4, 12, 31, 63, 127, 0, 511, 1023, 2047, 2047, 8191, 16383]
theorem tab30_41 : rtab .any (opsOf Try.f30 41) = T30_41 := by kernel_rfl
theorem bits30_41 : waitsOk T30_41.2 B30_41 = true := by kernel_rfl

/-- the arcs that leave each vertex -/
def rtPut (at_ : List (List Int)) (v : Int) (x : Int) : Option (List (List Int)) :=
 if 0 ≤ v ∧ v < (at_.length : Int) ∧ (at_.getD v.toNat []).length < 1099511627776 then some (at_.set v.toNat (at_.getD v.toNat [] ++ [x])) else none
def rtAt : Nat → List S36 → List (List Int) → Option (List (List Int))
 | _, [], at_ => some at_
 | i, x :: xs, at_ => (rtPut at_ x.f0 (i : Int)).bind (rtAt (i + 1) xs)
/-- a walk along arcs on which flow is left, until a vertex comes again, or the sink -/
def rtWalk (l : List S36) (rows : List (List Int)) (left : List Int) (t value : Int) : Nat → Int → List Int → List (Int × Int) → Option (Int × List Int)
 | 0, _, _, _ => none
 | k + 1, v, walk, ml =>
  if 0 ≤ v ∧ v < (rows.length : Int) ∧ walk.length < 1099511627776 ∧ ml.length < 1099511627776 then
   (rtNext left (rows.getD v.toNat [])).bind fun i => if 0 ≤ i ∧ i < (l.length : Int) ∧ 0 ≤ (rd_T36 l i).f1 ∧ (rd_T36 l i).f1 ≤ 1099511627776 then
    match mget ml (rd_T36 l i).f1 with
    | some at_ => if 0 ≤ at_ ∧ at_ ≤ (walk.length : Int) + 1 then some ((rd_T36 l i).f1, (walk ++ [i]).drop at_.toNat) else none
    | none => if (rd_T36 l i).f1 = t ∧ value > 0 then some ((rd_T36 l i).f1, walk ++ [i]) else rtWalk l rows left t value k (rd_T36 l i).f1 (walk ++ [i]) (((rd_T36 l i).f1, (walk.length : Int) + 1) :: ml)
   else none
  else none
def rtMin (left : List Int) : List Int → Int → Option Int
 | [], m => some m
 | i :: is, m => if 0 ≤ i ∧ i < (left.length : Int) then rtMin left is (mn m (rd left i)) else none
def rtSub (m : Int) : List Int → List Int → Option (List Int)
 | [], left => some left
 | i :: is, left => if 0 ≤ i ∧ i < (left.length : Int) then rtSub m is (left.set i.toNat (wrap64 (rd left i - m))) else none
/-- where a walk begins; none: nothing is left -/
def rtStart (l : List S36) (left : List Int) (s value : Int) : Option (Option Int) :=
 if value = 0 then (if idxOf above left < 0 then some none else if idxOf above left < (l.length : Int) then some (some (rd_T36 l (idxOf above left)).f0) else none) else some (some s)
def rtMain (l : List S36) (rows : List (List Int)) (s t : Int) : Nat → List Int → Int → List S63 → Option (List S63 × Int)
 | 0, _, _, _ => none
 | k + 1, left, value, rs => (rtStart l left s value).bind fun o => match o with
  | none => some (rs, 0)
  | some v => if 0 ≤ v ∧ v ≤ 1099511627776 ∧ rs.length < 1099511627776 then (rtWalk l rows left t value k v [] [(v, 0)]).bind fun q =>
    if 0 < q.2.length ∧ q.2.length < 1099511627776 ∧ 0 ≤ rd q.2 0 ∧ rd q.2 0 < (left.length : Int) ∧ rd q.2 0 < (l.length : Int) then
     (rtMin left q.2 (rd left (rd q.2 0))).bind fun m => (rtSub m q.2 left).bind fun left2 =>
      rtMain l rows s t k left2 (if (rd_T36 l (rd q.2 0)).f0 = s ∧ q.1 = t then wrap64 (value - m) else value) (rs ++ [⟨q.2, m⟩])
    else none
   else none
def flow_Routes.f (k : Nat) (n : Int) (l : List S36) (s t val : Int) (al : List Int) (sd : List Bool) : Option (List S63 × Int) :=
 (flow_Check.f k n l s t val al sd).bind fun e => if e = 0 then
  (if 0 < n ∧ n ≤ 1099511627776 ∧ l.length ≤ 1099511627776 ∧ al.length = l.length then (rtAt 0 l (List.replicate n.toNat [])).bind fun rows => rtMain l rows s t k al val [] else none)
 else some ([], e)
theorem rtWalk_mono (l : List S36) (rows : List (List Int)) (left : List Int) (t value : Int) : ∀ k v walk ml, LeO (rtWalk l rows left t value k v walk ml) (rtWalk l rows left t value (k + 1) v walk ml)
 | 0, _, _, _ => fun r h => by simp [rtWalk] at h
 | k + 1, v, walk, ml => by
  unfold rtWalk
  refine LeO.ite (LeO.bind (LeO.refl _) (fun i => LeO.ite ?_ (LeO.refl _))) (LeO.refl _)
  split
  ·exact LeO.refl _
  ·exact LeO.ite (LeO.refl _) (rtWalk_mono l rows left t value k _ _ _)
theorem rtMain_mono (l : List S36) (rows : List (List Int)) (s t : Int) : ∀ k left value rs, LeO (rtMain l rows s t k left value rs) (rtMain l rows s t (k + 1) left value rs)
 | 0, _, _, _ => fun r h => by simp [rtMain] at h
 | k + 1, left, value, rs => by
  unfold rtMain
  refine LeO.bind (LeO.refl _) (fun o => ?_)
  cases o with
  | none => exact LeO.refl _
  | some v => exact LeO.ite (LeO.bind (rtWalk_mono _ _ _ _ _ _ _ _ _) (fun q => LeO.ite (LeO.bind (LeO.refl _) (fun m => LeO.bind (LeO.refl _) (fun l2 => rtMain_mono l rows s t k _ _ _))) (LeO.refl _))) (LeO.refl _)
theorem flow_Routes.mono : ∀ a0 a1 a2 a3 a4 a5 a6 k, LeO (flow_Routes.f k a0 a1 a2 a3 a4 a5 a6) (flow_Routes.f (k + 1) a0 a1 a2 a3 a4 a5 a6) := by
 intro a0 a1 a2 a3 a4 a5 a6 k
 unfold flow_Routes.f
 exact LeO.bind (flow_Check.mono _ _ _ _ _ _ _ _) (fun e => LeO.ite (LeO.ite (LeO.bind (LeO.refl _) (fun rows => rtMain_mono _ _ _ _ _ _ _ _)) (LeO.refl _)) (LeO.refl _))

set_option maxHeartbeats 16000000 in
set_option maxRecDepth 100000 in
theorem flow_Routes.calls (k : Nat) (a0_0 : Int) (A0_1 : Option Addr) (c0_1 : Nat) (l0_1 : List S36) (a1 a2 : Int) (a3_0 : Int) (A3_1 : Option Addr) (c3_1 : Nat) (l3_1 : List Int) (A3_2 : Option Addr) (c3_2 : Nat) (l3_2 : List Bool) (r1 : List S63) (r2 : Int) (w : World)
  (hr0_1 : Kd.C k36 w A0_1 l0_1.length l0_1) (hc0_1 : l0_1.length ≤ c0_1) (hr3_1 : Kd.C (Kd.int .i64) w A3_1 l3_1.length l3_1) (hc3_1 : l3_1.length ≤ c3_1) (hr3_2 : Kd.C Kd.bool w A3_2 l3_2.length l3_2) (hc3_2 : l3_2.length ≤ c3_2)
  (h : flow_Routes.f k a0_0 l0_1 a1 a2 a3_0 l3_1 l3_2 = some (r1, r2)) :
  Calls Try.prog 30 #[.agg #[.int .i64 a0_0, .slice A0_1 l0_1.length c0_1], .int .i64 a1, .int .i64 a2, .agg #[.int .i64 a3_0, .slice A3_1 l3_1.length c3_1, .slice A3_2 l3_2.length c3_2]] w fun e w' => ∃ v0_ : Value, e = .returned (.tuple #[v0_, .int .i64 r2]) ∧ Kd.R k63 63 w' w.heap.size (fun _ => True) v0_ r1 ∧ Below w.heap.size w w' := by
 have hu24 := Try.underlying24
 have hu36 := Try.underlying36
 have hu39 := Try.underlying39
 have hu63 := Try.underlying63
 have HR0 := Aside0.mk hr0_1
 have HR1 := Aside0.mk hr3_1
 have HR2 := Aside0.mk hr3_2
 clear hr0_1 hr3_1 hr3_2
 unfold flow_Routes.f at h
 obtain ⟨e, he, h1⟩ := Option.bind_eq_some_iff.1 h
 have HE := Aside0.mk he
 clear h he
 have HL := Aside0.mk (Live.nil w)
 split at h1
 ·rename_i e0
  subst e0
  split at h1
  ·rename_i hg
   obtain ⟨hn0, hn, hln, hal⟩ := hg
   obtain ⟨n, rfl⟩ : ∃ n : Nat, a0_0 = (n : Int) := ⟨a0_0.toNat, by omega⟩
   obtain ⟨rows, hat, hmain⟩ := Option.bind_eq_some_iff.1 h1
   rw [show ((n : Int)).toNat = n from rfl] at hat
   have HAT := Aside0.mk hat
   have HM := Aside0.mk hmain
   have HAL := Aside0.mk hal
   clear h1 hat hmain hal
   go_enter Try.func30, Try.ntmps30
   go_wp2_with (first
    | ((with_reducible refine gate_dst (N := 4) rfl ?_); refine ev_new HL #[.int .i64 ((n : Int)), .slice A0_1 l0_1.length c0_1] 24 rfl 4 rfl ?hr ?_; (case hr => first | (go_simp; done) | (go_simp; rfl)); intro g4 w1 G4 HL1; clear HL; have HL := HL1; clear HL1)
    | ((with_reducible refine gate_dst (N := 7) rfl ?_); refine ev_new HL #[.int .i64 a3_0, .slice A3_1 l3_1.length c3_1, .slice A3_2 l3_2.length c3_2] 39 rfl 7 rfl ?hr ?_; (case hr => first | (go_simp; done) | (go_simp; rfl)); intro g7 w2 G7 HL1; clear HL; have HL := HL1; clear HL1; have o0 : w2.cell? ⟨g4, 0, none⟩ = some (.int .i64 ((n : Int))) := (HL.out.box_cell (i := 0) rfl 0).trans rfl; have o1 : w2.cell? ⟨g4, 1, none⟩ = some (.slice A0_1 l0_1.length c0_1) := (HL.out.box_cell (i := 0) rfl 1).trans rfl; have o2 : w2.cell? ⟨g7, 0, none⟩ = some (.int .i64 a3_0) := (HL.out.box_cell (i := 1) rfl 0).trans rfl; have o3 : w2.cell? ⟨g7, 1, none⟩ = some (.slice A3_1 l3_1.length c3_1) := (HL.out.box_cell (i := 1) rfl 1).trans rfl; have o4 : w2.cell? ⟨g7, 2, none⟩ = some (.slice A3_2 l3_2.length c3_2) := (HL.out.box_cell (i := 1) rfl 2).trans rfl)
    | ((with_reducible refine gate_callee (f := 24) rfl ?_); refine goesL_ (some 34) rfl rfl Try.func24 (by kernel_rfl) rfl #[.agg #[.int .i64 ((n : Int)), .slice A0_1 l0_1.length c0_1], .int .i64 a1, .int .i64 a2, .agg #[.int .i64 a3_0, .slice A3_1 l3_1.length c3_1, .slice A3_2 l3_2.length c3_2]] rfl (by (try simp only [List.map_toArray, List.map_cons, List.map_nil]); first | done | rfl) ?_; refine (flow_Check.calls k ((n : Int)) A0_1 c0_1 l0_1 a1 a2 a3_0 A3_1 c3_1 l3_1 A3_2 c3_2 l3_2 0 _ (Kd.C_below HR0.out HL.out.hb) hc0_1 (Kd.C_below HR1.out HL.out.hb) hc3_1 (Kd.C_below HR2.out HL.out.hb) hc3_2 HE.out).mono ?_; rintro e w3 ⟨rfl, hb⟩; refine ⟨_, rfl, ?_⟩; have HL1 := Aside0.mk (HL.out.same hb); clear HL hb o0 o1 o2 o3 o4; have HL := HL1; clear HL1; have o0 : w3.cell? ⟨g4, 0, none⟩ = some (.int .i64 ((n : Int))) := (HL.out.box_cell (i := 0) rfl 0).trans rfl; have o1 : w3.cell? ⟨g4, 1, none⟩ = some (.slice A0_1 l0_1.length c0_1) := (HL.out.box_cell (i := 0) rfl 1).trans rfl; have o2 : w3.cell? ⟨g7, 0, none⟩ = some (.int .i64 a3_0) := (HL.out.box_cell (i := 1) rfl 0).trans rfl; have o3 : w3.cell? ⟨g7, 1, none⟩ = some (.slice A3_1 l3_1.length c3_1) := (HL.out.box_cell (i := 1) rfl 1).trans rfl; have o4 : w3.cell? ⟨g7, 2, none⟩ = some (.slice A3_2 l3_2.length c3_2) := (HL.out.box_cell (i := 1) rfl 2).trans rfl)
    | ((with_reducible refine gate_callee (f := 43) rfl ?_); refine goesL_ (some 40) rfl rfl Try.func43 (by kernel_rfl) rfl #[.slice A3_1 l3_1.length c3_1] rfl (by (try simp only [List.map_toArray, List.map_cons, List.map_nil]); first | done | rfl) ?_; refine (clone3_calls A3_1 c3_1 l3_1 _ (Kd.C_below HR1.out HL.out.hb) (by have := HAL.out; omega)).mono ?_; rintro e w4 ⟨v40, rfl, ho, hb⟩; refine ⟨_, rfl, ?_⟩; have HL1 := Aside0.mk (HL.out.add_row ho hb); clear HL ho hb o0 o1 o2 o3 o4; have HL := HL1; clear HL1; (obtain ⟨AL, cL, e_⟩ := Kd.R_slice (HL.out.row (i := 2) rfl)); subst e_)
    | ((with_reducible refine gate_dst (N := 11) rfl ?_); refine ev_new HL #[.slice none 0 0] 33 rfl 11 rfl ?hr ?_; (case hr => first | (go_simp; done) | (go_simp; rfl)); intro g11 w5 G11 HL1; clear HL; have HL := HL1; clear HL1; have f11 := HL.out.box_fz (i := 3) rfl; have b11 := HL.out.box_cell (i := 3) rfl)
    | ((with_reducible refine gate_store (t := 33) (p := 11) rfl ?_); refine ev_set HL (fun h => h.setbox (i := 3) rfl G11 0 (.slice AL l3_1.length cL)) 33 11 rfl rfl rfl ?hr ?_; (case hr => first | (go_simp; done) | (go_simp; rfl)); intro w6 HL1; clear HL f11 b11; have HL := HL1; clear HL1; have b7 : w6.cell? ⟨g7, 0, none⟩ = some (.int .i64 a3_0) := (HL.out.box_cell (i := 1) rfl 0).trans rfl; have b0 : w6.cell? ⟨g4, 0, none⟩ = some (.int .i64 (n : Int)) := (HL.out.box_cell (i := 0) rfl 0).trans rfl)
    | ((with_reducible refine gate_dst (N := 45) rfl ?_); refine ev_makeS HL (Kd.slice 3 (Kd.int .i64)) 33 [] n 45 76 _ _ (.slice none 0 0) 24 rfl rfl rfl rfl rfl Try.underlying76 hi33 rfl (by decide) (by decide) ⟨_, rfl, Kd.R_nil _ _ _ _ _⟩ (by omega) ?_; intro v45 w7 HL1; clear HL b7 b0; have HL := HL1; clear HL1; (obtain ⟨gr, pr, e7, -, -, -⟩ := Kd.S_form (HL.out.rowS (i := 4) rfl) (by simp; omega)); (rw [List.length_replicate] at e7); subst e7)
    | ((with_reducible refine gate_dst (N := 13) rfl ?_); refine ev_new HL #[.slice none 0 0] 76 rfl 13 rfl ?hr ?_; (case hr => first | (go_simp; done) | (go_simp; rfl)); intro g13 w8 G13 HL1; clear HL; have HL := HL1; clear HL1; have f13 := HL.out.box_fz (i := 5) rfl; have b13 := HL.out.box_cell (i := 5) rfl)
    | ((with_reducible refine gate_store (t := 76) (p := 13) rfl ?_); refine ev_set HL (fun h => h.setbox (i := 5) rfl G13 0 (.slice (some ⟨gr, 0, none⟩) n pr)) 76 13 rfl rfl rfl ?hr ?_; (case hr => first | (go_simp; done) | (go_simp; rfl)); intro w9 HL1; clear HL f13 b13; have HL := HL1; clear HL1; have b1 : w9.cell? ⟨g4, 1, none⟩ = some (.slice A0_1 l0_1.length c0_1) := (HL.out.box_cell (i := 0) rfl 1).trans rfl)
    )
   clear b1
   go_loopg [14, 15, 49] l0_1.length (fun gk _ _ v49 wr => ∃ (j : Nat) (at_ : List (List Int)), v49 = .int .i64 (j : Int) ∧ Aside0 (l0_1.length = j + gk) ∧ Aside0 (rtAt j (l0_1.drop j) at_ = some rows ∧ at_.length = n) ∧ Aside0 (Live w wr [Box g4 #[.int .i64 (n : Int), .slice A0_1 l0_1.length c0_1] 24, Box g7 #[.int .i64 a3_0, .slice A3_1 l3_1.length c3_1, .slice A3_2 l3_2.length c3_2] 39, Row w.heap.size (Kd.int .i64) 3 (.slice AL l3_1.length cL) l3_1, Box g11 #[.slice AL l3_1.length cL] 33, RowS w.heap.size (Kd.slice 3 (Kd.int .i64)) 33 (.slice (some ⟨gr, 0, none⟩) n pr) at_, Box g13 #[.slice (some ⟨gr, 0, none⟩) n pr] 76]))
   case atStart => exact ⟨0, _, rfl, ⟨by omega⟩, ⟨HAT.out, by simp⟩, HL⟩
   case round =>
    clear HL HAT
    obtain ⟨j, at_, rfl, HK, HAT, HL⟩ := hrel
    cases gk with
    | zero =>
     have hj : decide (j < l0_1.length) = false := decide_eq_false (by have := HK.out; omega)
     have h1 := HAT.out.1
     have hal := HAT.out.2
     rw [List.drop_of_length_le (by have := HK.out; omega)] at h1
     obtain rfl := Option.some.inj h1
     have HRL := Aside0.mk hal
     clear h1 HAT HK hal
     go_upto_region 13 with (fail)
     have HL1 := Aside0.mk (HL.out.add_nil k63 63)
     clear HL
     have HL := HL1
     clear HL1
     go_wp2
     go_loopg [12, 17] k (fun gk v12 v17 wr => ∃ (A17 : Option Addr) (c17 : Nat) (left : List Int) (value : Int) (rs : List S63), v12 = .int .i64 value ∧ v17 = .slice A17 rs.length c17 ∧ Aside0 (rtMain l0_1 at_ a1 a2 gk left value rs = some (r1, r2)) ∧ Aside0 (left.length = l3_1.length) ∧ Aside0 (Live w wr [Box g4 #[.int .i64 (n : Int), .slice A0_1 l0_1.length c0_1] 24, Box g7 #[.int .i64 a3_0, .slice A3_1 l3_1.length c3_1, .slice A3_2 l3_2.length c3_2] 39, Row w.heap.size (Kd.int .i64) 3 (.slice AL l3_1.length cL) left, Box g11 #[.slice AL l3_1.length cL] 33, RowS w.heap.size (Kd.slice 3 (Kd.int .i64)) 33 (.slice (some ⟨gr, 0, none⟩) n pr) at_, Box g13 #[.slice (some ⟨gr, 0, none⟩) n pr] 76, Row w.heap.size k63 63 (.slice A17 rs.length c17) rs]))
     case atStart => exact ⟨none, 0, l3_1, _, [], rfl, rfl, HM, ⟨rfl⟩, HL⟩
     case round =>
      clear HL HM
      obtain ⟨A17, c17, left, value, rs, rfl, rfl, HM, HLL, HL⟩ := hrel
      cases gk with
      | zero => exact absurd HM.out (by simp [rtMain])
      | succ g1 =>
       have h1 := HM.out
       clear HM
       simp only [rtMain] at h1
       obtain ⟨o, hst, h2⟩ := Option.bind_eq_some_iff.1 h1
       clear h1
       have HC0 := indexFunc_calls above 46 #[] (enters_of Try.func46 (by kernel_rfl) rfl) AL cL left wr (Kd.R_reads' (HL.out.row (i := 2) rfl)).2.2 (pred46 wr)
       rw [HLL.out] at HC0
       have HC := Aside0.mk HC0
       clear HC0
       unfold rtStart at hst
       have b11 : wr.cell? ⟨g11, 0, none⟩ = some (.slice AL l3_1.length cL) := (HL.out.box_cell (i := 3) rfl 0).trans rfl
       cases o with
       | none =>
        simp only [Option.some.injEq, Prod.mk.injEq] at h2
        obtain ⟨rfl, rfl⟩ := h2
        split at hst
        ·rename_i hv0
         subst hv0
         split at hst
         ·rename_i hneg
          have d2 : decide (idxOf above left < 0) = true := decide_eq_true hneg
          have HD := Aside0.mk d2
          clear hst hneg d2
          obtain ⟨ix, hix⟩ : ∃ ix, Aside0 (idxOf above left = ix) := ⟨_, ⟨rfl⟩⟩
          have d2 : decide (ix < 0) = true := by rw [← hix.out]; exact HD.out
          replace HC := Aside0.mk (by have h := HC.out; rw [hix.out] at h; exact h)
          clear HD hix
          go_wp2_with (first
           | (go_at_call 45; refine HC.out.mono ?_; rintro e w2 ⟨rfl, hb⟩; have HL1 := Aside0.mk (HL.out.same hb); clear HL hb HC b11; have HL := HL1; clear HL1)
           )
          go_ret2
          exact ⟨_, rfl, HL.out.row (i := 6) rfl, HL.out.hb⟩
         ·split at hst
          ·cases hst
          ·cases hst
        ·cases hst
       | some v0 =>
        simp only at h2
        split at h2
        ·rename_i hg
         obtain ⟨hv0, hv1, hrs⟩ := hg
         have H2 := Aside0.mk h2
         have HRS := Aside0.mk hrs
         clear h2 hrs
         have HST := Aside0.mk hst
         clear hst
         clear b11
         go_upto_if 70 with (fail)
         go_cut [18] from 71 to 81 (fun v18 wd => v18 = .int .i64 v0 ∧ Aside0 (Live w wd [Box g4 #[.int .i64 (n : Int), .slice A0_1 l0_1.length c0_1] 24, Box g7 #[.int .i64 a3_0, .slice A3_1 l3_1.length c3_1, .slice A3_2 l3_2.length c3_2] 39, Row w.heap.size (Kd.int .i64) 3 (.slice AL l3_1.length cL) left, Box g11 #[.slice AL l3_1.length cL] 33, RowS w.heap.size (Kd.slice 3 (Kd.int .i64)) 33 (.slice (some ⟨gr, 0, none⟩) n pr) at_, Box g13 #[.slice (some ⟨gr, 0, none⟩) n pr] 76, Row w.heap.size k63 63 (.slice A17 rs.length c17) rs]))
         case first =>
          have b11 : wr.cell? ⟨g11, 0, none⟩ = some (.slice AL l3_1.length cL) := (HL.out.box_cell (i := 3) rfl 0).trans rfl
          have hst := HST.out
          clear HST H2 HRS
          split at hst
          ·rename_i hz
           subst hz
           obtain ⟨ix, hix⟩ : ∃ ix, Aside0 (idxOf above left = ix) := ⟨_, ⟨rfl⟩⟩
           rw [hix.out] at hst
           replace HC := Aside0.mk (by have h := HC.out; rw [hix.out] at h; exact h)
           clear hix
           split at hst
           ·cases hst
           ·rename_i hnn
            split at hst
            ·rename_i hlt
             simp only [Option.some.injEq] at hst
             obtain ⟨f, rfl⟩ : ∃ f : Nat, ix = (f : Int) := ⟨ix.toNat, by omega⟩
             obtain ⟨ad3, e3, xa0, xa1, xa2⟩ := at_T36 HR0.out (f : Int) (by omega) hlt
             subst e3
             rw [show ((f : Int)).toNat = f from rfl] at xa0
             rw [hst] at xa0
             have Y := Aside0.mk xa0
             have d2 : decide ((f : Int) < 0) = false := decide_eq_false hnn
             clear xa0 xa1 xa2 hst hnn
             go_wp2_with (first
              | (go_at_call 45; refine HC.out.mono ?_; rintro e w2 ⟨rfl, hb⟩; have HL1 := Aside0.mk (HL.out.same hb); clear HL hb HC b11; have HL := HL1; clear HL1; have b1 : w2.cell? ⟨g4, 1, none⟩ = some (.slice (some ad3) l0_1.length c0_1) := (HL.out.box_cell (i := 0) rfl 1).trans rfl; have xa0 := HL.out.old Y.out)
              )
             go_meet
             case rel => exact ⟨rfl, HL⟩
            ·cases hst
          ·rename_i hz
           simp only [Option.some.injEq] at hst
           subst hst
           have dz : (value == 0) = false := beq_eq_false_iff_ne.2 hz
           clear hz
           go_wp2
           go_meet
           case rel => exact ⟨rfl, HL⟩
         case rest =>
          clear HL HST HC
          obtain ⟨rfl, HL⟩ := hcut
          obtain ⟨⟨vE, wE⟩, hwalk, h3⟩ := Option.bind_eq_some_iff.1 H2.out
          have HW := Aside0.mk hwalk
          have H3 := Aside0.mk h3
          clear H2 hwalk h3
          have hx0 : (Lit.int .i64 v0).wf = true := WalkArith.wf_i64 ⟨by omega, by omega⟩
          have hy0 : (Lit.int .i64 0).wf = true := by decide
          have HX := Aside0.mk (And.intro hx0 hy0)
          clear hx0 hy0
          have hmm := @run_makeMap Try.prog
          go_upto_block 4 with (first
           | ((with_reducible refine gate_dst (N := 82) rfl ?_); refine ev_map (P := Try.prog) HL 3 3 rfl (N := 82) rfl ?hr ?_; (case hr => first | (go_simp; done) | (go_simp; rfl)); intro gM w2 GM HL1; clear HL hmm; have HL := HL1; clear HL1)
           | (refine ev_mput HL (i := 7) rfl GM 79 Try.underlying3 Try.underlying3 Try.underlying79 (by decide) (.tmp 82) (.tmp 83) _ v0 0 rfl (.inr rfl) rfl rfl rfl HX.out.1 HX.out.2 ?_; intro w3 HL1; clear HL; have HL := HL1; clear HL1)
           )
          have HL1 := Aside0.mk (HL.out.add_nil (Kd.int .i64) 3)
          clear HL HX
          have HL := HL1
          clear HL1
          go_cut [18, 21] from 85 to 118 (fun v18 v21 wd => ∃ (A : Option Addr) (c : Nat), v18 = .int .i64 vE ∧ v21 = .slice A wE.length c ∧ Aside0 (Live w wd [Box g4 #[.int .i64 (n : Int), .slice A0_1 l0_1.length c0_1] 24, Box g7 #[.int .i64 a3_0, .slice A3_1 l3_1.length c3_1, .slice A3_2 l3_2.length c3_2] 39, Row w.heap.size (Kd.int .i64) 3 (.slice AL l3_1.length cL) left, Box g11 #[.slice AL l3_1.length cL] 33, RowS w.heap.size (Kd.slice 3 (Kd.int .i64)) 33 (.slice (some ⟨gr, 0, none⟩) n pr) at_, Box g13 #[.slice (some ⟨gr, 0, none⟩) n pr] 76, Row w.heap.size k63 63 (.slice A17 rs.length c17) rs, Emp, RowQ w.heap.size (Kd.int .i64) 3 (.slice A wE.length c) wE]))
          case first =>
           clear H3
           go_wp2
           go_loopg [18, 21, 22, 23, 24] g1 (fun gk v18 v21 _ _ _ wr => ∃ (A21 : Option Addr) (c21 : Nat) (v : Int) (walk : List Int) (ml : List (Int × Int)), v18 = .int .i64 v ∧ v21 = .slice A21 walk.length c21 ∧ Aside0 (rtWalk l0_1 at_ left a2 value gk v walk ml = some (vE, wE)) ∧ Aside0 (Live w wr [Box g4 #[.int .i64 (n : Int), .slice A0_1 l0_1.length c0_1] 24, Box g7 #[.int .i64 a3_0, .slice A3_1 l3_1.length c3_1, .slice A3_2 l3_2.length c3_2] 39, Row w.heap.size (Kd.int .i64) 3 (.slice AL l3_1.length cL) left, Box g11 #[.slice AL l3_1.length cL] 33, RowS w.heap.size (Kd.slice 3 (Kd.int .i64)) 33 (.slice (some ⟨gr, 0, none⟩) n pr) at_, Box g13 #[.slice (some ⟨gr, 0, none⟩) n pr] 76, Row w.heap.size k63 63 (.slice A17 rs.length c17) rs, MapI Try.prog 3 3 gM ml, Row w.heap.size (Kd.int .i64) 3 (.slice A21 walk.length c21) walk]))
           case atStart => exact ⟨none, 0, v0, [], [(v0, 0)], rfl, rfl, HW, HL⟩
           case round =>
            clear HL HW
            obtain ⟨A21, c21, v, walk, ml, rfl, rfl, HW, HL⟩ := hrel
            cases gk with
            | zero => exact absurd HW.out (by simp [rtWalk])
            | succ g2 =>
             have h1 := HW.out
             clear HW
             simp only [rtWalk] at h1
             split at h1
             ·rename_i hg
              obtain ⟨u0, u1, u2, u3⟩ := hg
              obtain ⟨i, hnx, h2⟩ := Option.bind_eq_some_iff.1 h1
              clear h1
              split at h2
              ·rename_i hg
               obtain ⟨y0, y1, y2, y3⟩ := hg
               obtain ⟨i, rfl⟩ : ∃ m : Nat, i = (m : Int) := ⟨i.toNat, by omega⟩
               have hc := next_calls (some ⟨gr, 0, none⟩) pr at_ AL cL left g13 g11 v (i : Int) wr (by rw [HRL.out]; exact HL.out.box (i := 5) rfl) (by rw [HLL.out]; exact HL.out.box (i := 3) rfl) (Kd.S_reads' (HL.out.rowS (i := 4) rfl)).2.2 (Kd.R_reads' (HL.out.row (i := 2) rfl)).2.2 u0 u1 hnx
               have HC := Aside0.mk hc
               clear hc hnx u0 u1
               obtain ⟨ad3, e3, xa0, xa1, xa2⟩ := at_T36 HR0.out (i : Int) (by omega) y1
               subst e3
               rw [show ((i : Int)).toNat = i from rfl] at xa1
               generalize (rd_T36 l0_1 (i : Int)).f1 = f' at xa1 y2 y3 h2
               have Y := Aside0.mk xa1
               have hx0 : (Lit.int .i64 f').wf = true := WalkArith.wf_i64 ⟨by omega, by omega⟩
               have hy0 : (Lit.int .i64 ((walk.length : Int) + 1)).wf = true := WalkArith.wf_i64 ⟨by omega, by omega⟩
               have HX := Aside0.mk (And.intro hx0 hy0)
               have HU := Aside0.mk (And.intro u2 u3)
               clear xa0 xa1 xa2 hx0 hy0
               obtain ⟨q, hq⟩ : ∃ q, Aside0 (mget ml f' = q) := ⟨_, ⟨rfl⟩⟩
               rw [hq.out] at h2
               have H2 := Aside0.mk h2
               clear h2
               go_upto_if 104 with (first
                | (go_at_call 44; refine HC.out.mono ?_; rintro e w4 ⟨rfl, hb⟩; have HL1 := Aside0.mk (HL.out.same hb); clear HL hb HC; have HL := HL1; clear HL1; have b1 : w4.cell? ⟨g4, 1, none⟩ = some (.slice (some ad3) l0_1.length c0_1) := (HL.out.box_cell (i := 0) rfl 1).trans rfl)
                | ((with_reducible refine gate_builtin (b := .append) (xs := #[.tmp 88, .tmp 90]) rfl ?_); at_builtin; refine ev_append HL (i := 8) rfl (i : Int) [.int .i64 (i : Int)] 88 90 33 (.int .i64 0) 8 rfl rfl Try.underlying33 info3 rfl (by decide) (by decide) rfl rfl rfl (by have := HU.out; omega) ?_; intro v21 w5 HL1; clear HL b1; have HL := HL1; clear HL1; (obtain ⟨A5, c5, e5⟩ := Kd.R_slice (HL.out.row (i := 8) rfl)); (rw [List.length_append, List.length_singleton] at e5); subst e5; have b1 : w5.cell? ⟨g4, 1, none⟩ = some (.slice (some ad3) l0_1.length c0_1) := (HL.out.box_cell (i := 0) rfl 1).trans rfl; have xa1 := HL.out.old Y.out)
                | (at_lookup; refine ev_mget HL (i := 7) rfl 79 Try.underlying3 Try.underlying3 Try.underlying79 (by kernel_rfl) (.tmp 99) (.tmp 100) f' rfl rfl rfl rfl HX.out.1 ?_; rw [hq.out])
                )
               clear b1 xa1
               cases q with
               | some at' =>
                have h2 := H2.out
                simp only at h2
                split at h2
                ·rename_i hg
                 obtain ⟨z0, z1⟩ := hg
                 simp only [Option.some.injEq, Prod.mk.injEq] at h2
                 obtain ⟨rfl, rfl⟩ := h2
                 obtain ⟨at', rfl⟩ : ∃ m : Nat, at' = (m : Int) := ⟨at'.toNat, by omega⟩
                 have HL1 := Aside0.mk (HL.out.turn (i := 8) rfl (RowQ w.heap.size (Kd.int .i64) 3 (.slice A5 (walk.length + 1) c5) (walk ++ [(i : Int)])) (fun ok h => Kd.Q_of_R h))
                 clear HL
                 obtain ⟨A6, c6, hcut, HL2⟩ := HL1.out.cut (i := 8) rfl at' (by rw [List.length_append, List.length_singleton]; omega) Try.underlying33 info3
                 have HL := Aside0.mk (HL2.turn (i := 7) rfl Emp (fun _ _ => trivial))
                 clear HL1 HL2 H2 HX HU hq
                 go_wp2
                 go_meet
                 case rel => exact ⟨A6, c6, rfl, by rw [show ((at' : Int)).toNat = at' from rfl, List.length_drop, List.length_append, List.length_singleton], HL⟩
                ·cases h2
               | none =>
                have h2 := H2.out
                simp only at h2
                clear H2
                by_cases c1 : f' = a2
                ·subst c1
                 by_cases c2 : value > 0
                 ·rw [if_pos ⟨rfl, c2⟩] at h2
                  simp only [Option.some.injEq, Prod.mk.injEq] at h2
                  obtain ⟨rfl, rfl⟩ := h2
                  have d2 : decide (0 < value) = true := decide_eq_true c2
                  have HL1 := Aside0.mk ((HL.out.turn (i := 8) rfl (RowQ w.heap.size (Kd.int .i64) 3 (.slice A5 (walk.length + 1) c5) (walk ++ [(i : Int)])) (fun ok h => Kd.Q_of_R h)).turn (i := 7) rfl Emp (fun _ _ => trivial))
                  clear HL c2 HX HU hq
                  have HL := HL1
                  clear HL1
                  go_wp2
                  go_meet
                  case rel => exact ⟨A5, c5, rfl, by rw [List.length_append]; rfl, by rw [List.length_append]; exact HL⟩
                 ·rw [if_neg (fun z => c2 z.2)] at h2
                  have d2 : decide (0 < value) = false := decide_eq_false c2
                  have HW := Aside0.mk h2
                  clear h2 c2
                  go_wp2_with (first
                   | (refine ev_mput HL (i := 7) rfl GM 79 Try.underlying3 Try.underlying3 Try.underlying79 (by have := HU.out; unfold maxLen; omega) (.tmp 115) (.tmp 116) (.tmp 118) f' ((walk.length : Int) + 1) rfl (.inl rfl) rfl rfl rfl HX.out.1 HX.out.2 ?_; intro w6 HL1; clear HL; have HL := HL1; clear HL1)
                   )
                  go_roundg g2
                  case measure => omega
                  case rel => exact ⟨A5, c5, f', walk ++ [(i : Int)], _, rfl, by rw [List.length_append]; rfl, HW, by rw [List.length_append]; exact HL⟩
                ·rw [if_neg (fun z => c1 z.1)] at h2
                 have d1 : (f' == a2) = false := beq_eq_false_iff_ne.2 c1
                 have HW := Aside0.mk h2
                 clear h2 c1
                 go_wp2_with (first
                  | (refine ev_mput HL (i := 7) rfl GM 79 Try.underlying3 Try.underlying3 Try.underlying79 (by have := HU.out; unfold maxLen; omega) (.tmp 115) (.tmp 116) (.tmp 118) f' ((walk.length : Int) + 1) rfl (.inl rfl) rfl rfl rfl HX.out.1 HX.out.2 ?_; intro w6 HL1; clear HL; have HL := HL1; clear HL1)
                  )
                 go_roundg g2
                 case measure => omega
                 case rel => exact ⟨A5, c5, f', walk ++ [(i : Int)], _, rfl, by rw [List.length_append]; rfl, HW, by rw [List.length_append]; exact HL⟩
              ·cases h2
             ·cases h1
          case rest =>
           clear HL HW
           obtain ⟨AW, cW, rfl, rfl, HL⟩ := hcut
           have h3 := H3.out
           simp only at h3
           clear H3
           split at h3
           ·rename_i hg
            obtain ⟨y0, y1, y2, y3, y4⟩ := hg
            obtain ⟨m, hmin, h4⟩ := Option.bind_eq_some_iff.1 h3
            obtain ⟨left2, hsub, h5⟩ := Option.bind_eq_some_iff.1 h4
            clear h3 h4
            obtain ⟨adW, eW, xw⟩ := Kd.at_int (Kd.Q_reads' (HL.out.rowQ (i := 8) rfl)).2.2 0 (by omega) (by omega)
            subst eW
            rw [show ((0 : Int)).toNat = 0 from rfl, Addr.add_zero'] at xw
            obtain ⟨f, hf⟩ : ∃ f : Nat, rd wE 0 = (f : Int) := ⟨(rd wE 0).toNat, by omega⟩
            have HF := Aside0.mk hf
            rw [hf] at xw y2 y3 y4 hmin h5
            clear hf
            obtain ⟨gl, pl, el, -, -, -⟩ := Kd.R_form (HL.out.row (i := 2) rfl) (by omega)
            injection el with e1 e2 e3
            subst e1 e3
            clear e2
            have y5 : (f : Int) < (l3_1.length : Int) := by have := HLL.out; omega
            obtain ⟨xl, -⟩ := Kd.R_celln 0 (HL.out.row (i := 2) rfl) (f : Int) (by omega) y5
            rw [show ((f : Int)).toNat = f from rfl] at xl
            replace xl : wc.cell? ⟨gl, f, none⟩ = some (.int .i64 (rd left (f : Int))) := xl
            generalize rd left (f : Int) = a0 at xl hmin
            obtain ⟨ad3, e3, xa0, xa1, xa2⟩ := at_T36 HR0.out (f : Int) (by omega) y4
            subst e3
            rw [show ((f : Int)).toNat = f from rfl] at xa0
            have Y := Aside0.mk xa0
            obtain ⟨fr, hfr⟩ : ∃ fr, Aside0 ((rd_T36 l0_1 (f : Int)).f0 = fr) := ⟨_, ⟨rfl⟩⟩
            rw [hfr.out] at h5
            have HMin := Aside0.mk hmin
            have HSub := Aside0.mk hsub
            have HM := Aside0.mk h5
            have y0' : (0 : Int) < (wE.length : Int) := by omega
            have HY := Aside0.mk (And.intro y1 y0)
            have b11 : wc.cell? ⟨g11, 0, none⟩ = some (.slice (some ⟨gl, 0, none⟩) l3_1.length cL) := (HL.out.box_cell (i := 3) rfl 0).trans rfl
            clear xa0 xa1 xa2 hmin hsub h5 y3
            go_upto_region 30 with (fail)
            go_quiet (fail)
            clear xw xl b11
            go_wp2
            go_loopg [25, 27, 127] wE.length (fun gk v25 _ v127 wr => ∃ (j : Nat) (a : Int), v25 = .int .i64 a ∧ v127 = .int .i64 (j : Int) ∧ Aside0 (wE.length = j + gk) ∧ Aside0 (rtMin left (wE.drop j) a = some m) ∧ Aside0 (Live w wr [Box g4 #[.int .i64 (n : Int), .slice (some ad3) l0_1.length c0_1] 24, Box g7 #[.int .i64 a3_0, .slice A3_1 l3_1.length c3_1, .slice A3_2 l3_2.length c3_2] 39, Row w.heap.size (Kd.int .i64) 3 (.slice (some ⟨gl, 0, none⟩) l3_1.length cL) left, Box g11 #[.slice (some ⟨gl, 0, none⟩) l3_1.length cL] 33, RowS w.heap.size (Kd.slice 3 (Kd.int .i64)) 33 (.slice (some ⟨gr, 0, none⟩) n pr) at_, Box g13 #[.slice (some ⟨gr, 0, none⟩) n pr] 76, Row w.heap.size k63 63 (.slice A17 rs.length c17) rs, Emp, RowQ w.heap.size (Kd.int .i64) 3 (.slice (some adW) wE.length cW) wE]))
            case atStart => exact ⟨0, a0, rfl, rfl, ⟨by omega⟩, HMin, ⟨HL.out.drewN _⟩⟩
            case round =>
             clear HL HMin
             obtain ⟨j, a, rfl, rfl, HK, HMin, HL⟩ := hrel
             cases gk with
             | zero =>
              have hj : decide (j < wE.length) = false := decide_eq_false (by have := HK.out; omega)
              have hfin : a = m := by
               have h1 := HMin.out
               rw [List.drop_of_length_le (by have := HK.out; omega)] at h1
               exact Option.some.inj h1
              subst hfin
              clear HMin HK
              go_wp2
              go_loopg [29, 140] wE.length (fun gk _ v140 wr => ∃ (j : Nat) (lf : List Int), v140 = .int .i64 (j : Int) ∧ Aside0 (wE.length = j + gk) ∧ Aside0 (rtSub a (wE.drop j) lf = some left2 ∧ lf.length = l3_1.length) ∧ Aside0 (Live w wr [Box g4 #[.int .i64 (n : Int), .slice (some ad3) l0_1.length c0_1] 24, Box g7 #[.int .i64 a3_0, .slice A3_1 l3_1.length c3_1, .slice A3_2 l3_2.length c3_2] 39, Row w.heap.size (Kd.int .i64) 3 (.slice (some ⟨gl, 0, none⟩) l3_1.length cL) lf, Box g11 #[.slice (some ⟨gl, 0, none⟩) l3_1.length cL] 33, RowS w.heap.size (Kd.slice 3 (Kd.int .i64)) 33 (.slice (some ⟨gr, 0, none⟩) n pr) at_, Box g13 #[.slice (some ⟨gr, 0, none⟩) n pr] 76, Row w.heap.size k63 63 (.slice A17 rs.length c17) rs, Emp, RowQ w.heap.size (Kd.int .i64) 3 (.slice (some adW) wE.length cW) wE]))
              case atStart => exact ⟨0, left, rfl, ⟨by omega⟩, ⟨HSub.out, HLL.out⟩, HL⟩
              case round =>
               clear HL HSub hj
               obtain ⟨j, lf, rfl, HK, HSub, HL⟩ := hrel
               cases gk with
               | zero =>
                have hj : decide (j < wE.length) = false := decide_eq_false (by have := HK.out; omega)
                have hfin : lf = left2 := by
                 have h1 := HSub.out.1
                 rw [List.drop_of_length_le (by have := HK.out; omega)] at h1
                 exact Option.some.inj h1
                subst hfin
                have HLL2 := Aside0.mk HSub.out.2
                clear HSub HK
                obtain ⟨bb, HBB⟩ : ∃ bb : Bool, Aside0 (decide (fr = a1 ∧ vE = a2) = bb) := ⟨_, ⟨rfl⟩⟩
                replace HM := Aside0.mk (show rtMain l0_1 at_ a1 a2 g1 lf (if bb = true then wrap64 (value - a) else value) (rs ++ [⟨wE, a⟩]) = some (r1, r2) by
                 have h := HM.out
                 rw [← h, ← HBB.out]; simp only [decide_eq_true_eq])
                go_upto_region 41 with (fail)
                go_cut [166] from 152 to 166 (fun v166 wd => v166 = .bool bb ∧ Aside0 (Live w wd [Box g4 #[.int .i64 (n : Int), .slice (some ad3) l0_1.length c0_1] 24, Box g7 #[.int .i64 a3_0, .slice A3_1 l3_1.length c3_1, .slice A3_2 l3_2.length c3_2] 39, Row w.heap.size (Kd.int .i64) 3 (.slice (some ⟨gl, 0, none⟩) l3_1.length cL) lf, Box g11 #[.slice (some ⟨gl, 0, none⟩) l3_1.length cL] 33, RowS w.heap.size (Kd.slice 3 (Kd.int .i64)) 33 (.slice (some ⟨gr, 0, none⟩) n pr) at_, Box g13 #[.slice (some ⟨gr, 0, none⟩) n pr] 76, Row w.heap.size k63 63 (.slice A17 rs.length c17) rs, Emp, RowQ w.heap.size (Kd.int .i64) 3 (.slice (some adW) wE.length cW) wE]))
                case first =>
                 clear HM HLL2 hj
                 have b1 : wr.cell? ⟨g4, 1, none⟩ = some (.slice (some ad3) l0_1.length c0_1) := (HL.out.box_cell (i := 0) rfl 1).trans rfl
                 have xa0 := HL.out.old Y.out
                 obtain ⟨ad', e', xw⟩ := Kd.at_int (Kd.Q_reads' (HL.out.rowQ (i := 8) rfl)).2.2 0 (by omega) (by omega)
                 obtain rfl := Option.some.inj e'
                 rw [show ((0 : Int)).toNat = 0 from rfl, Addr.add_zero', HF.out] at xw
                 rw [hfr.out] at xa0
                 have HBB' := HBB.out
                 clear HBB
                 by_cases c1 : fr = a1
                 ·have d1 : (fr == a1) = true := beq_iff_eq.2 c1
                  by_cases c2 : vE = a2
                  ·have d2 : (vE == a2) = true := beq_iff_eq.2 c2
                   have HBB := Aside0.mk (show bb = true by rw [← HBB']; exact decide_eq_true ⟨c1, c2⟩)
                   clear HBB' c1 c2
                   go_quiet (fail)
                   go_wp2
                   go_meet
                   case rel => exact ⟨by rw [HBB.out], ⟨HL.out.drewN _⟩⟩
                  ·have d2 : (vE == a2) = false := beq_eq_false_iff_ne.2 c2
                   have HBB := Aside0.mk (show bb = false by rw [← HBB']; exact decide_eq_false (fun z => c2 z.2))
                   clear HBB' c1 c2
                   go_quiet (fail)
                   go_wp2
                   go_meet
                   case rel => exact ⟨by rw [HBB.out], ⟨HL.out.drewN _⟩⟩
                 ·have d1 : (fr == a1) = false := beq_eq_false_iff_ne.2 c1
                  have HBB := Aside0.mk (show bb = false by rw [← HBB']; exact decide_eq_false (fun z => c1 z.1))
                  clear HBB' c1
                  go_quiet (fail)
                  go_wp2
                  go_meet
                  case rel => exact ⟨by rw [HBB.out], ⟨HL.out.drewN _⟩⟩
                case rest =>
                 clear HL HBB
                 obtain ⟨rfl, HL⟩ := hcut
                 cases bb with
                 | true =>
                  replace HM := Aside0.mk (show rtMain l0_1 at_ a1 a2 g1 lf (wrap64 (value - a)) (rs ++ [⟨wE, a⟩]) = some (r1, r2) from HM.out)
                  go_wp2_with (first
                   | ((with_reducible refine gate_callee (f := 43) rfl ?_); refine goesL_ (some 172) rfl rfl Try.func43 (by kernel_rfl) rfl #[.slice (some adW) wE.length cW] rfl (by (try simp only [List.map_toArray, List.map_cons, List.map_nil]); first | done | rfl) ?_; refine (clone3_calls (some adW) cW wE _ (Kd.Q_reads' (HL.out.rowQ (i := 8) rfl)).2.2 (by have := HY.out; omega)).mono ?_; rintro e w12 ⟨v172, rfl, ho, hb⟩; refine ⟨_, rfl, ?_⟩; have HL1 := Aside0.mk (HL.out.add_row ho hb); clear HL ho hb; have HL := HL1; clear HL1; (obtain ⟨A172, c172, e_⟩ := Kd.R_slice (HL.out.row (i := 9) rfl)); subst e_)
                   | ((with_reducible refine gate_builtin (b := .append) (xs := #[.tmp 170, .tmp 175]) rfl ?_); at_builtin; refine ev_append_row HL (i := 6) (j := 9) (by decide) rfl rfl (⟨wE, a⟩ : S63) [.slice A172 wE.length c172, .int .i64 a] 170 175 57 (.agg #[.slice none 0 0, .int .i64 0]) 32 rfl rfl Try.underlying57 hi63 rfl (by decide) (by decide) rfl rfl (fun ok h => k63_mkM _ _ _ _ h) (by have := HRS.out; omega) ?_; intro v17 w13 HL1; clear HL; have HL := HL1; clear HL1; (obtain ⟨A7, c7, e7⟩ := Kd.R_slice (HL.out.row (i := 6) rfl)); (rw [List.length_append, List.length_singleton] at e7); subst e7)
                   )
                  go_roundg g1
                  case measure => omega
                  case rel => exact ⟨A7, c7, lf, _, _, rfl, by rw [List.length_append]; rfl, HM, HLL2, ⟨by rw [List.length_append]; exact HL.out.drop_last.drop_last.drop_last⟩⟩
                 | false =>
                  replace HM := Aside0.mk (show rtMain l0_1 at_ a1 a2 g1 lf value (rs ++ [⟨wE, a⟩]) = some (r1, r2) from HM.out)
                  go_wp2_with (first
                   | ((with_reducible refine gate_callee (f := 43) rfl ?_); refine goesL_ (some 172) rfl rfl Try.func43 (by kernel_rfl) rfl #[.slice (some adW) wE.length cW] rfl (by (try simp only [List.map_toArray, List.map_cons, List.map_nil]); first | done | rfl) ?_; refine (clone3_calls (some adW) cW wE _ (Kd.Q_reads' (HL.out.rowQ (i := 8) rfl)).2.2 (by have := HY.out; omega)).mono ?_; rintro e w12 ⟨v172, rfl, ho, hb⟩; refine ⟨_, rfl, ?_⟩; have HL1 := Aside0.mk (HL.out.add_row ho hb); clear HL ho hb; have HL := HL1; clear HL1; (obtain ⟨A172, c172, e_⟩ := Kd.R_slice (HL.out.row (i := 9) rfl)); subst e_)
                   | ((with_reducible refine gate_builtin (b := .append) (xs := #[.tmp 170, .tmp 175]) rfl ?_); at_builtin; refine ev_append_row HL (i := 6) (j := 9) (by decide) rfl rfl (⟨wE, a⟩ : S63) [.slice A172 wE.length c172, .int .i64 a] 170 175 57 (.agg #[.slice none 0 0, .int .i64 0]) 32 rfl rfl Try.underlying57 hi63 rfl (by decide) (by decide) rfl rfl (fun ok h => k63_mkM _ _ _ _ h) (by have := HRS.out; omega) ?_; intro v17 w13 HL1; clear HL; have HL := HL1; clear HL1; (obtain ⟨A7, c7, e7⟩ := Kd.R_slice (HL.out.row (i := 6) rfl)); (rw [List.length_append, List.length_singleton] at e7); subst e7)
                   )
                  go_roundg g1
                  case measure => omega
                  case rel => exact ⟨A7, c7, lf, _, _, rfl, by rw [List.length_append]; rfl, HM, HLL2, ⟨by rw [List.length_append]; exact HL.out.drop_last.drop_last.drop_last⟩⟩
               | succ g3 =>
                have hj : decide (j < wE.length) = true := decide_eq_true (by have := HK.out; omega)
                have hjz : (j : Int) < (wE.length : Int) := by have := HK.out; omega
                have hjb : j + 1 < 9223372036854775808 := by have := HY.out; omega
                obtain ⟨ad', e', xw⟩ := Kd.at_int (Kd.Q_reads' (HL.out.rowQ (i := 8) rfl)).2.2 (j : Int) (by omega) hjz
                obtain rfl := Option.some.inj e'
                rw [show ((j : Int)).toNat = j from rfl] at xw
                have HD := Aside0.mk (show wE.drop j = rd wE (j : Int) :: wE.drop (j + 1) by
                 have hk : j < wE.length := by have := HK.out; omega
                 rw [List.drop_eq_getElem_cons hk]; simp [rd, List.getD, hk])
                generalize rd wE (j : Int) = x at xw HD
                have h1 := HSub.out.1
                have hlf := HSub.out.2
                rw [HD.out, rtSub] at h1
                clear HSub HD
                split at h1
                ·rename_i hg
                 obtain ⟨u0, u1⟩ := hg
                 obtain ⟨i, rfl⟩ : ∃ i : Nat, x = (i : Int) := ⟨x.toNat, by omega⟩
                 have u2 : (i : Int) < (l3_1.length : Int) := by omega
                 obtain ⟨xl, fl⟩ := Kd.R_celln 0 (HL.out.row (i := 2) rfl) (i : Int) (by omega) u2
                 rw [show ((i : Int)).toNat = i from rfl] at xl fl h1
                 replace xl : wr.cell? ⟨gl, i, none⟩ = some (.int .i64 (rd lf (i : Int))) := xl
                 generalize rd lf (i : Int) = z at xl h1
                 have HSub := Aside0.mk (And.intro h1 hlf)
                 have b11 : wr.cell? ⟨g11, 0, none⟩ = some (.slice (some ⟨gl, 0, none⟩) l3_1.length cL) := (HL.out.box_cell (i := 3) rfl 0).trans rfl
                 clear h1 hlf u1
                 go_wp2_with (first
                  | ((with_reducible refine gate_store (t := 3) (p := 150) rfl ?_); refine ev_set HL (fun h => h.put (i := 2) (enc := Value.int .i64) rfl (i : Int) (wrap64 (z - a))) 3 150 rfl rfl rfl ?hr ?_; (case hr => first | (go_simp; done) | (go_simp; rfl)); intro w11 HL1; clear HL xl fl b11 xw; have HL := HL1; clear HL1)
                  )
                 go_roundg g3
                 case measure => omega
                 case rel => exact ⟨j + 1, _, by go_num, ⟨by have := HK.out; omega⟩, ⟨HSub.out.1, by rw [List.length_set]; exact HSub.out.2⟩, HL⟩
                ·cases h1
             | succ g3 =>
              have hj : decide (j < wE.length) = true := decide_eq_true (by have := HK.out; omega)
              have hjz : (j : Int) < (wE.length : Int) := by have := HK.out; omega
              have hjb : j + 1 < 9223372036854775808 := by have := HY.out; omega
              obtain ⟨ad', e', xw⟩ := Kd.at_int (Kd.Q_reads' (HL.out.rowQ (i := 8) rfl)).2.2 (j : Int) (by omega) hjz
              obtain rfl := Option.some.inj e'
              rw [show ((j : Int)).toNat = j from rfl] at xw
              have HD := Aside0.mk (show wE.drop j = rd wE (j : Int) :: wE.drop (j + 1) by
               have hk : j < wE.length := by have := HK.out; omega
               rw [List.drop_eq_getElem_cons hk]; simp [rd, List.getD, hk])
              generalize rd wE (j : Int) = x at xw HD
              have h1 := HMin.out
              rw [HD.out, rtMin] at h1
              clear HMin HD
              split at h1
              ·rename_i hg
               obtain ⟨u0, u1⟩ := hg
               obtain ⟨i, rfl⟩ : ∃ i : Nat, x = (i : Int) := ⟨x.toNat, by omega⟩
               have u2 : (i : Int) < (l3_1.length : Int) := by have := HLL.out; omega
               obtain ⟨xl, -⟩ := Kd.R_celln 0 (HL.out.row (i := 2) rfl) (i : Int) (by omega) u2
               rw [show ((i : Int)).toNat = i from rfl] at xl
               replace xl : wr.cell? ⟨gl, i, none⟩ = some (.int .i64 (rd left (i : Int))) := xl
               generalize rd left (i : Int) = z at xl h1
               have b11 : wr.cell? ⟨g11, 0, none⟩ = some (.slice (some ⟨gl, 0, none⟩) l3_1.length cL) := (HL.out.box_cell (i := 3) rfl 0).trans rfl
               by_cases hmn : z < a
               ·have e := Aside0.mk (show mn a z = z by simp [mn, hmn])
                rw [e.out] at h1
                have HMin := Aside0.mk h1
                clear h1 e u1
                go_wp2
                go_roundg g3
                case measure => omega
                case rel => exact ⟨j + 1, z, rfl, by go_num, ⟨by have := HK.out; omega⟩, HMin, HL⟩
               ·have e := Aside0.mk (show mn a z = a by simp [mn, hmn])
                rw [e.out] at h1
                have HMin := Aside0.mk h1
                clear h1 e u1
                go_wp2
                go_roundg g3
                case measure => omega
                case rel => exact ⟨j + 1, a, rfl, by go_num, ⟨by have := HK.out; omega⟩, HMin, HL⟩
              ·cases h1
           ·cases h3
        ·cases h2
    | succ g2 =>
     have hj : decide (j < l0_1.length) = true := decide_eq_true (by have := HK.out; omega)
     have hjz : (j : Int) < (l0_1.length : Int) := by have := HK.out; omega
     have hjb : j + 1 < 9223372036854775808 := by omega
     obtain ⟨ad3, e3, xa0, xa1, xa2⟩ := at_T36 HR0.out (j : Int) (by omega) hjz
     subst e3
     rw [show ((j : Int)).toNat = j from rfl] at xa0 xa1 xa2
     have HD := Aside0.mk (show l0_1.drop j = rd_T36 l0_1 (j : Int) :: l0_1.drop (j + 1) by
      have hk : j < l0_1.length := by omega
      rw [List.drop_eq_getElem_cons hk]; simp [rd_T36, List.getD, hk])
     generalize rd_T36 l0_1 (j : Int) = x at xa0 xa1 xa2 HD
     have h1 := HAT.out.1
     have hal := HAT.out.2
     rw [HD.out] at h1
     obtain ⟨at3, hp1, h3⟩ := Option.bind_eq_some_iff.1 h1
     clear HAT HD h1
     unfold rtPut at hp1
     split at hp1
     ·rename_i hg1
      obtain ⟨u0, u1, u2⟩ := hg1
      obtain ⟨f, f', cp⟩ := x
      simp only at xa0 xa1 xa2 u0 u1 u2 hp1
      obtain ⟨f, rfl⟩ : ∃ m : Nat, f = (m : Int) := ⟨f.toNat, by omega⟩
      rw [show ((f : Int)).toNat = f from rfl] at u2 hp1
      have HP1 := Aside0.mk (Option.some.inj hp1)
      have HAT := Aside0.mk h3
      have hal3 : at3.length = n := by rw [← HP1.out, List.length_set]; exact hal
      clear hp1 h3
      rw [hal] at u1
      replace xa0 := HL.out.old xa0
      replace xa1 := HL.out.old xa1
      replace xa2 := HL.out.old xa2
      have b1 : wr.cell? ⟨g4, 1, none⟩ = some (.slice (some ad3) l0_1.length c0_1) := (HL.out.box_cell (i := 0) rfl 1).trans rfl
      go_upto_region 10 with (first
       | ((with_reducible refine gate_dst (N := 15) rfl ?_); refine ev_new HL #[.int .i64 0, .int .i64 0, .int .i64 0] 36 rfl 15 rfl ?hr ?_; (case hr => first | (go_simp; done) | (go_simp; rfl)); intro g15 w3 G15 HL1; clear HL b1 xa0 xa1 xa2; have HL := HL1; clear HL1; have f15 := HL.out.box_fz (i := 6) rfl; have b15 := HL.out.box_cell (i := 6) rfl)
       | ((with_reducible refine gate_store (t := 36) (p := 15) rfl ?_); refine ev_set HL (fun h => ((h.setbox (i := 6) rfl G15 0 (.int .i64 (f : Int))).setbox (i := 6) rfl G15 1 (.int .i64 f')).setbox (i := 6) rfl G15 2 (.int .i64 cp)) 36 15 rfl rfl rfl ?hr ?_; (case hr => first | (go_simp; done) | (go_simp; rfl)); intro w4 HL1; clear HL f15 b15; have HL := HL1; clear HL1)
       )
      have hf1 : (f : Int) < (n : Int) := by omega
      obtain ⟨ad7, A7, c7, e7, x7, -, -⟩ := at_rows (Kd.S_reads' (HL.out.rowS (i := 4) rfl)).2.2 (f : Int) (by omega) (by omega)
      obtain rfl := Option.some.inj e7
      rw [add_plain, show ((f : Int)).toNat = f from rfl] at x7
      have X7 := (show w4.drew.cell? _ = _ from x7)
      clear x7
      replace HL := HL.out.drew
      refine start_ (n := 13) (S := fun w' => w'.cell? ⟨g13, 0, none⟩ = some (.slice (some ⟨gr, 0, none⟩) n pr) ∧ w'.cell? ⟨g15, 0, none⟩ = some (.int .i64 (f : Int)) ∧ w'.cell? ⟨gr, f, none⟩ = some (.slice A7 (at_.getD f []).length c7)) (ds := [12]) #[false, false, false, false, false, false, false, false, false, false, false, false, false] (by kernel_rfl) rfl rfl ⟨(HL.box_cell (i := 5) rfl 0).trans rfl, (HL.box_cell (i := 6) rfl 0).trans rfl, X7⟩ (fun hHeld => ?_); refine with_tabW tab30_10 bits30_10 (fun HT_ HW_ => ?_)
      generalize w4.drew = wd_ at HL hHeld X7 ⊢
      refine pure_ (i := 1) (N := some 55) (v := ?_) (a' := ?_) #[false, true, false, false, false, false, false, false, false, false, false, false, false] rfl rfl (any_of HT_.out (by kernel_rfl)) (fun _ _ _ h => h) (Or.inl ⟨by rfl, ?_⟩) ?_ ?_; (rotate_left; · intro w'; go_simp; with_reducible rfl); (rotate_left; · simp only [Act.put, List.setIfInBounds_toArray, List.set_cons_zero, List.set_cons_succ, i64_w, i32_w]; rfl)
      refine pure_ (i := 4) (N := some 58) (v := ?_) (a' := ?_) #[false, true, false, false, true, false, false, false, false, false, false, false, false] rfl rfl (any_of HT_.out (by kernel_rfl)) (fun _ _ _ h => h) (Or.inl ⟨by rfl, ?_⟩) ?_ ?_; (rotate_left; · intro w'; go_simp; with_reducible rfl); (rotate_left; · simp only [Act.put, List.setIfInBounds_toArray, List.set_cons_zero, List.set_cons_succ, i64_w, i32_w]; rfl)
      refine pure_ (i := 8) (N := some 62) (v := ?_) (a' := ?_) #[false, true, false, false, true, false, false, false, true, false, false, false, false] rfl rfl (any_of HT_.out (by kernel_rfl)) (fun _ _ _ h => h) (Or.inl ⟨by rfl, ?_⟩) ?_ ?_; (rotate_left; · intro w'; go_simp; with_reducible rfl); (rotate_left; · simp only [Act.put, List.setIfInBounds_toArray, List.set_cons_zero, List.set_cons_succ, i64_w, i32_w]; rfl)
      refine take_ (i := 0) (N := some 54) (v := ?_) (a' := ?_) #[true, true, false, false, true, false, false, false, true, false, false, false, false] rfl rfl (take_ofW HT_.out HW_.out (by kernel_rfl)) (fun _ _ _ h => h) (Or.inl ⟨by rfl, ?_⟩) hHeld ?_ ?_; (rotate_left; · rintro w' ⟨s0, s1, s2⟩; go_simp; with_reducible rfl); (rotate_left; · simp only [Act.put, List.setIfInBounds_toArray, List.set_cons_zero, List.set_cons_succ, i64_w, i32_w]; rfl)
      refine take_ (i := 2) (N := some 56) (v := ?_) (a' := ?_) #[true, true, true, false, true, false, false, false, true, false, false, false, false] rfl rfl (take_ofW HT_.out HW_.out (by kernel_rfl)) (fun _ _ _ h => h) (Or.inl ⟨by rfl, ?_⟩) hHeld ?_ ?_; (rotate_left; · rintro w' ⟨s0, s1, s2⟩; go_simp; with_reducible rfl); (rotate_left; · simp only [Act.put, List.setIfInBounds_toArray, List.set_cons_zero, List.set_cons_succ, i64_w, i32_w]; rfl)
      refine take_ (i := 3) (N := some 57) (v := ?_) (a' := ?_) #[true, true, true, true, true, false, false, false, true, false, false, false, false] rfl rfl (take_ofW HT_.out HW_.out (by kernel_rfl)) (fun _ _ _ h => h) (Or.inl ⟨by rfl, ?_⟩) hHeld ?_ ?_; (rotate_left; · rintro w' ⟨s0, s1, s2⟩; go_simp; with_reducible rfl); (rotate_left; · simp only [Act.put, List.setIfInBounds_toArray, List.set_cons_zero, List.set_cons_succ, i64_w, i32_w]; rfl)
      refine take_ (i := 5) (N := some 59) (v := ?_) (a' := ?_) #[true, true, true, true, true, true, false, false, true, false, false, false, false] rfl rfl (take_ofW HT_.out HW_.out (by kernel_rfl)) (fun _ _ _ h => h) (Or.inl ⟨by rfl, ?_⟩) hHeld ?_ ?_; (rotate_left; · rintro w' ⟨s0, s1, s2⟩; go_simp; with_reducible rfl); (rotate_left; · simp only [Act.put, List.setIfInBounds_toArray, List.set_cons_zero, List.set_cons_succ, i64_w, i32_w]; rfl)
      refine pure_ (i := 6) (N := some 60) (v := ?_) (a' := ?_) #[true, true, true, true, true, true, true, false, true, false, false, false, false] rfl rfl (any_of HT_.out (by kernel_rfl)) (fun _ _ _ h => h) (Or.inl ⟨by rfl, ?_⟩) ?_ ?_; (rotate_left; · intro w'; go_simp; with_reducible rfl); (rotate_left; · simp only [Act.put, List.setIfInBounds_toArray, List.set_cons_zero, List.set_cons_succ, i64_w, i32_w]; rfl)
      refine take_ (i := 7) (N := some 61) (v := ?_) (a' := ?_) #[true, true, true, true, true, true, true, true, true, false, false, false, false] rfl rfl (take_ofW HT_.out HW_.out (by kernel_rfl)) (fun _ _ _ h => h) (Or.inl ⟨by rfl, ?_⟩) hHeld ?_ ?_; (rotate_left; · rintro w' ⟨s0, s1, s2⟩; go_simp; with_reducible rfl); (rotate_left; · simp only [Act.put, List.setIfInBounds_toArray, List.set_cons_zero, List.set_cons_succ, i64_w, i32_w]; rfl)
      refine one_ (i := 9) (N := some 63) #[true, true, true, true, true, true, true, true, true, true, false, false, false] rfl rfl (one_of HT_.out (by kernel_rfl)) (by decide) (fun K hK => ?_)
      refine value_ (w1 := ?_) (v := ?_) (by rfl) rfl ?_ ?_; (rotate_left 2; · (go_simp; (constructor <;> rfl)))
      refine hK.out _ _ ⟨((HL.alloc _).box_cell (i := 5) rfl 0).trans rfl, ((HL.alloc _).box_cell (i := 6) rfl 0).trans rfl, (World.cell?_alloc_lt _ _ _ (World.block_lt_of_cell? _ _ hHeld.2.2)).trans hHeld.2.2⟩ (fun hHeld => ?_)
      clear hK K; refine norm_ (a' := ?_) ?_ ?_; (rotate_left; · show Act.put _ (some 63) _ = _; simp only [Act.put, List.setIfInBounds_toArray, List.set_cons_zero, List.set_cons_succ, i64_w, i32_w]; rfl)
      refine one_ (i := 10) (N := some 64) #[true, true, true, true, true, true, true, true, true, true, true, false, false] rfl rfl (one_of HT_.out (by kernel_rfl)) (by decide) (fun K hK => ?_)
      refine app_step HL (i := 4) rfl (f : Int) (by omega) (by omega) X7 (j : Int) [.int .i64 (j : Int)] 61 63 33 (.int .i64 0) 8 (by rfl) rfl Try.underlying33 info3 rfl (by decide) (by decide) rfl rfl rfl (by rw [show ((f : Int)).toNat = f from rfl]; omega) ?_
      intro A1_ c1_ w1_ q1_ q2_ q3_ q4_; rw [show ((f : Int)).toNat = f from rfl] at q1_ q2_ q4_
      refine hK.out _ _ ⟨(q3_.box_cell (i := 5) rfl 0).trans rfl, (q3_.box_cell (i := 6) rfl 0).trans rfl, q1_⟩ (fun hHeld => ?_)
      clear hK K; refine norm_ (a' := ?_) ?_ ?_; (rotate_left; · show Act.put _ (some 64) _ = _; simp only [Act.put, List.setIfInBounds_toArray, List.set_cons_zero, List.set_cons_succ, i64_w, i32_w]; rfl)
      refine pure_ (i := 11) (N := some 65) (v := ?_) (a' := ?_) #[true, true, true, true, true, true, true, true, true, true, true, true, false] rfl rfl (any_of HT_.out (by kernel_rfl)) (fun _ _ _ h => h) (Or.inl ⟨by rfl, ?_⟩) ?_ ?_; (rotate_left; · intro w'; go_simp; with_reducible rfl); (rotate_left; · simp only [Act.put, List.setIfInBounds_toArray, List.set_cons_zero, List.set_cons_succ, i64_w, i32_w]; rfl)
      refine last_ (i := 12) (N := none) #[true, true, true, true, true, true, true, true, true, true, true, true, true] rfl rfl (one_of HT_.out (by kernel_rfl)) (by decide) (fun K hK => ?_)
      refine skip_ (w1 := w1_.setCell ⟨gr, f, none⟩ (.slice A1_ ((at_.getD f []).length + 1) c1_)) (by rfl) rfl (by first | (go_simp; done) | (go_simp; rfl)) ?_
      refine hK.out _ _ ?_; clear hK K; refine done_ (done_of HT_.out (by kernel_rfl)) ?_
      rw [HP1.out] at q4_
      have HL := Aside0.mk q4_
      clear q1_ q2_ q3_ q4_ X7 hHeld HT_ HW_
      generalize w1_.setCell ⟨gr, f, none⟩ (.slice A1_ ((at_.getD f []).length + 1) c1_) = w5 at HL ⊢
      go_wp2
      go_roundg g2
      case measure => omega
      case rel => exact ⟨j + 1, at3, by go_num, ⟨by have := HK.out; omega⟩, ⟨HAT.out, hal3⟩, ⟨HL.out.drop_last⟩⟩
     ·cases hp1
  ·cases h1
 ·rename_i hne
  simp only [Option.some.injEq, Prod.mk.injEq] at h1
  obtain ⟨rfl, rfl⟩ := h1
  have d1 : (e != 0) = true := bne_iff_ne.2 hne
  go_enter Try.func30, Try.ntmps30
  go_wp2_with (first
   | ((with_reducible refine gate_dst (N := 4) rfl ?_); refine ev_new HL #[.int .i64 (a0_0), .slice A0_1 l0_1.length c0_1] 24 rfl 4 rfl ?hr ?_; (case hr => first | (go_simp; done) | (go_simp; rfl)); intro g4 w1 G4 HL1; clear HL; have HL := HL1; clear HL1)
   | ((with_reducible refine gate_dst (N := 7) rfl ?_); refine ev_new HL #[.int .i64 a3_0, .slice A3_1 l3_1.length c3_1, .slice A3_2 l3_2.length c3_2] 39 rfl 7 rfl ?hr ?_; (case hr => first | (go_simp; done) | (go_simp; rfl)); intro g7 w2 G7 HL1; clear HL; have HL := HL1; clear HL1; have o0 : w2.cell? ⟨g4, 0, none⟩ = some (.int .i64 (a0_0)) := (HL.out.box_cell (i := 0) rfl 0).trans rfl; have o1 : w2.cell? ⟨g4, 1, none⟩ = some (.slice A0_1 l0_1.length c0_1) := (HL.out.box_cell (i := 0) rfl 1).trans rfl; have o2 : w2.cell? ⟨g7, 0, none⟩ = some (.int .i64 a3_0) := (HL.out.box_cell (i := 1) rfl 0).trans rfl; have o3 : w2.cell? ⟨g7, 1, none⟩ = some (.slice A3_1 l3_1.length c3_1) := (HL.out.box_cell (i := 1) rfl 1).trans rfl; have o4 : w2.cell? ⟨g7, 2, none⟩ = some (.slice A3_2 l3_2.length c3_2) := (HL.out.box_cell (i := 1) rfl 2).trans rfl)
   | ((with_reducible refine gate_callee (f := 24) rfl ?_); refine goesL_ (some 34) rfl rfl Try.func24 (by kernel_rfl) rfl #[.agg #[.int .i64 (a0_0), .slice A0_1 l0_1.length c0_1], .int .i64 a1, .int .i64 a2, .agg #[.int .i64 a3_0, .slice A3_1 l3_1.length c3_1, .slice A3_2 l3_2.length c3_2]] rfl (by (try simp only [List.map_toArray, List.map_cons, List.map_nil]); first | done | rfl) ?_; refine (flow_Check.calls k (a0_0) A0_1 c0_1 l0_1 a1 a2 a3_0 A3_1 c3_1 l3_1 A3_2 c3_2 l3_2 e _ (Kd.C_below HR0.out HL.out.hb) hc0_1 (Kd.C_below HR1.out HL.out.hb) hc3_1 (Kd.C_below HR2.out HL.out.hb) hc3_2 HE.out).mono ?_; rintro e w3 ⟨rfl, hb⟩; refine ⟨_, rfl, ?_⟩; have HL1 := Aside0.mk (HL.out.same hb); clear HL hb o0 o1 o2 o3 o4; have HL := HL1; clear HL1; have o0 : w3.cell? ⟨g4, 0, none⟩ = some (.int .i64 (a0_0)) := (HL.out.box_cell (i := 0) rfl 0).trans rfl; have o1 : w3.cell? ⟨g4, 1, none⟩ = some (.slice A0_1 l0_1.length c0_1) := (HL.out.box_cell (i := 0) rfl 1).trans rfl; have o2 : w3.cell? ⟨g7, 0, none⟩ = some (.int .i64 a3_0) := (HL.out.box_cell (i := 1) rfl 0).trans rfl; have o3 : w3.cell? ⟨g7, 1, none⟩ = some (.slice A3_1 l3_1.length c3_1) := (HL.out.box_cell (i := 1) rfl 1).trans rfl; have o4 : w3.cell? ⟨g7, 2, none⟩ = some (.slice A3_2 l3_2.length c3_2) := (HL.out.box_cell (i := 1) rfl 2).trans rfl)
   )
  go_ret2
  exact ⟨_, rfl, Kd.R_nil _ _ _ _ _, HL.out.hb⟩
end Go.Proofs.Ytidomjhihfoabaa.PF
-- thin
