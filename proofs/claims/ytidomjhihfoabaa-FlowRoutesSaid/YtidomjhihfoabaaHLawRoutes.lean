/- The law FlowRoutes: what its call does where it returns true (elsewhere nothing is said). -/
import Derived.Test.YtidomjhihfoabaaHRoutes
import Derived.Test.YtidomjhihfoabaaHIsRoute
import Derived.Test.YtidomjhihfoabaaPFx26
import Derived.Test.YtidomjhihfoabaaPFx25
import Derived.Test.YtidomjhihfoabaaPFx18
namespace Go.Proofs.Ytidomjhihfoabaa.PF
open Go Go.RowKit Go.Lib Go.Proofs.YtidomjhihfoabaaW.PrintWords Go.Proofs.YtidomjhihfoabaaW.PrintLast Go.Proofs.Ytidomjhihfoabaa.Lv
set_option linter.unusedVariables false
set_option linter.unusedSimpArgs false

def T11_16 : Bool × List (List Nat × List Nat) := (true, [([], []), ([0], [0]), ([], []), ([2], [2]), ([], []), ([4], [4]), ([], []), ([], []), ([6, 7], [6, 7]), ([8], [8]), ([1, 3, 5, 9], [1, 3, 5, 9]), ([10], [10]), ([11], [11]), ([11], [11]), ([12, 10, 0, 1, 2, 3, 4, 5, 6, 7, 8, 9, 10, 11, 12], [12]), ([13, 14, 0, 1, 2, 3, 4, 5, 6, 7, 8, 9, 10, 11, 12, 13, 14], [13])])
def B11_16 : List Nat := [0, 1, 0, 4, 0, 16, 0, 0, 192, 448, 1023, 2047, 4095, 4095, 8191, 32767]
theorem tab11_16 : rtab .any (opsOf Try.f11 16) = T11_16 := by kernel_rfl
theorem bits11_16 : waitsOk T11_16.2 B11_16 = true := by kernel_rfl
def T11_23 : Bool × List (List Nat × List Nat) := (true, [([], []), ([], []), ([0, 1], [0, 1]), ([2], [2]), ([3], [3]), ([], []), ([], []), ([5, 6], [5, 6]), ([7], [7]), ([4, 8], [4, 8])])
def B11_23 : List Nat := [0, 0, 3, 7, 15, 0, 0, 96, 224, 511]
theorem tab11_23 : rtab .any (opsOf Try.f11 23) = T11_23 := by kernel_rfl
theorem bits11_23 : waitsOk T11_23.2 B11_23 = true := by kernel_rfl
def T11_25 : Bool × List (List Nat × List Nat) := (true, [([], []), ([], []), ([0, 1], [0, 1]), ([2], [2]), ([], []), ([], []), ([4, 5], [4, 5]), ([6], [6]), ([7], [7]), ([3, 8], [3, 8]), ([0, 1, 0, 1, 2, 3, 4, 5, 6, 7, 8, 9], [0, 1]), ([10, 9, 0, 1, 2, 3, 4, 5, 6, 7, 8, 9], [9, 10])])
def B11_25 : List Nat := [0, 0, 3, 7, 0, 0, 48, 112, 240, 511, 1023, 2047]
theorem tab11_25 : rtab .any (opsOf Try.f11 25) = T11_25 := by kernel_rfl
theorem bits11_25 : waitsOk T11_25.2 B11_25 = true := by kernel_rfl

/-- a route takes what it says from each of its arcs -/
def lrSub (m : Int) : List Int → List Int → Option (List Int)
 | [], left => some left
 | i :: is, left => if 0 ≤ i ∧ i < (left.length : Int) ∧ ¬ m > rd left i then lrSub m is (left.set i.toNat (wrap64 (rd left i - m))) else none
def lrAll (n : Int) (l : List S36) (s t : Int) : List S63 → List Int → Int → Option (List Int × Int)
 | [], left, value => some (left, value)
 | r :: rs, left, value => (isRoute n l s t r.f0 r.f1).bind fun p => (lrSub r.f1 r.f0 left).bind fun left2 => lrAll n l s t rs left2 (if p = true then wrap64 (value + r.f1) else value)
def codewrightlaw51_FlowRoutes.f (k : Nat) (n : Int) (l : List S36) (s t val : Int) (al : List Int) (sd : List Bool) (al2 : List Int) (sd2 : List Bool) : Option Bool :=
 (codewrightlaw51_few.f k n l).bind fun b => if b = true then
  (flow_Routes.f k n l s t val al sd).bind fun q => (codewrightref51_Accept.f k n l s t val al sd).bind fun x => if q.2 = x then
   (codewrightlaw51_alive.f k).bind fun av => if av = true then
    (if x = 0 then (if q.1.length ≤ l.length ∧ l.length < 1099511627776 ∧ al.length < 1099511627776 then (lrAll n l s t q.1 al 0).bind fun p => if (∀ x ∈ p.1, x = 0) ∧ p.2 = val then some true else none else none)
    else if q.1 = [] then some true else none) else none else none
 else codewrightlaw51_alive.f k

set_option maxHeartbeats 16000000 in
set_option maxRecDepth 100000 in
theorem codewrightlaw51_FlowRoutes.calls (k : Nat) (a0_0 : Int) (A0_1 : Option Addr) (c0_1 : Nat) (l0_1 : List S36) (a0_2 : Int) (a0_3 : Int) (a0_4 : Int) (A0_5 : Option Addr) (c0_5 : Nat) (l0_5 : List Int) (A0_6 : Option Addr) (c0_6 : Nat) (l0_6 : List Bool) (A0_7 : Option Addr) (c0_7 : Nat) (l0_7 : List Int) (A0_8 : Option Addr) (c0_8 : Nat) (l0_8 : List Bool) (r : Bool) (w : World)
  (hr0_1 : Kd.C k36 w A0_1 l0_1.length l0_1) (hc0_1 : l0_1.length ≤ c0_1) (hr0_5 : Kd.C (Kd.int .i64) w A0_5 l0_5.length l0_5) (hc0_5 : l0_5.length ≤ c0_5) (hr0_6 : Kd.C Kd.bool w A0_6 l0_6.length l0_6) (hc0_6 : l0_6.length ≤ c0_6) (hr0_7 : Kd.C (Kd.int .i64) w A0_7 l0_7.length l0_7) (hc0_7 : l0_7.length ≤ c0_7) (hr0_8 : Kd.C Kd.bool w A0_8 l0_8.length l0_8) (hc0_8 : l0_8.length ≤ c0_8)
  (h : codewrightlaw51_FlowRoutes.f k a0_0 l0_1 a0_2 a0_3 a0_4 l0_5 l0_6 l0_7 l0_8 = some r) :
  Calls Try.prog 11 #[.agg #[.int .i64 a0_0, .slice A0_1 l0_1.length c0_1, .int .i64 a0_2, .int .i64 a0_3, .int .i64 a0_4, .slice A0_5 l0_5.length c0_5, .slice A0_6 l0_6.length c0_6, .slice A0_7 l0_7.length c0_7, .slice A0_8 l0_8.length c0_8]] w fun e w' => e = .returned (.bool r) ∧ Below w.heap.size w w' := by
 have hu41 := Try.underlying41
 have hu24 := Try.underlying24
 have hu39 := Try.underlying39
 have hu63 := Try.underlying63
 have HR0 := Aside0.mk hr0_1
 have HR5 := Aside0.mk hr0_5
 have HR6 := Aside0.mk hr0_6
 clear hr0_1 hr0_5 hr0_6 hr0_7 hr0_8
 unfold codewrightlaw51_FlowRoutes.f at h
 obtain ⟨b, hb0, h1⟩ := Option.bind_eq_some_iff.1 h
 clear h
 have HFew := Aside0.mk hb0
 clear hb0
 have HL := Aside0.mk (Live.nil w)
 go_enter Try.func11, Try.ntmps11
 cases b with
 | false =>
  rw [if_neg (by decide)] at h1
  have HAl := Aside0.mk h1
  clear h1
  go_wp2_with (first
   | ((with_reducible refine gate_dst (N := 1) rfl ?_); refine ev_new HL #[.int .i64 a0_0, .slice A0_1 l0_1.length c0_1, .int .i64 a0_2, .int .i64 a0_3, .int .i64 a0_4, .slice A0_5 l0_5.length c0_5, .slice A0_6 l0_6.length c0_6, .slice A0_7 l0_7.length c0_7, .slice A0_8 l0_8.length c0_8] 41 rfl 1 rfl ?hr ?_; (case hr => first | (go_simp; done) | (go_simp; rfl)); intro g1 w1 G1 HL1; clear HL; have HL := HL1; clear HL1; have b0 : w1.cell? ⟨g1, 0, none⟩ = some (.int .i64 a0_0) := (HL.out.box_cell (i := 0) rfl 0).trans rfl; have b1 : w1.cell? ⟨g1, 1, none⟩ = some (.slice A0_1 l0_1.length c0_1) := (HL.out.box_cell (i := 0) rfl 1).trans rfl; have b2 : w1.cell? ⟨g1, 2, none⟩ = some (.int .i64 a0_2) := (HL.out.box_cell (i := 0) rfl 2).trans rfl; have b3 : w1.cell? ⟨g1, 3, none⟩ = some (.int .i64 a0_3) := (HL.out.box_cell (i := 0) rfl 3).trans rfl; have b4 : w1.cell? ⟨g1, 4, none⟩ = some (.int .i64 a0_4) := (HL.out.box_cell (i := 0) rfl 4).trans rfl; have b5 : w1.cell? ⟨g1, 5, none⟩ = some (.slice A0_5 l0_5.length c0_5) := (HL.out.box_cell (i := 0) rfl 5).trans rfl; have b6 : w1.cell? ⟨g1, 6, none⟩ = some (.slice A0_6 l0_6.length c0_6) := (HL.out.box_cell (i := 0) rfl 6).trans rfl)
   | ((with_reducible refine gate_callee (f := 26) rfl ?_); refine goesL_ (some 16) rfl rfl Try.func26 (by kernel_rfl) rfl #[.agg #[.int .i64 a0_0, .slice A0_1 l0_1.length c0_1]] rfl (by (try simp only [List.map_toArray, List.map_cons, List.map_nil]); first | done | rfl) ?_; refine (codewrightlaw51_few.calls k a0_0 A0_1 c0_1 l0_1 false _ (Kd.C_below HR0.out HL.out.hb) hc0_1 HFew.out).mono ?_; rintro e w2 ⟨rfl, hb⟩; refine ⟨_, rfl, ?_⟩; have HL1 := Aside0.mk (HL.out.same hb); clear HL hb b0 b1 b2 b3 b4 b5 b6; have HL := HL1; clear HL1; have b0 : w2.cell? ⟨g1, 0, none⟩ = some (.int .i64 a0_0) := (HL.out.box_cell (i := 0) rfl 0).trans rfl; have b1 : w2.cell? ⟨g1, 1, none⟩ = some (.slice A0_1 l0_1.length c0_1) := (HL.out.box_cell (i := 0) rfl 1).trans rfl; have b2 : w2.cell? ⟨g1, 2, none⟩ = some (.int .i64 a0_2) := (HL.out.box_cell (i := 0) rfl 2).trans rfl; have b3 : w2.cell? ⟨g1, 3, none⟩ = some (.int .i64 a0_3) := (HL.out.box_cell (i := 0) rfl 3).trans rfl; have b4 : w2.cell? ⟨g1, 4, none⟩ = some (.int .i64 a0_4) := (HL.out.box_cell (i := 0) rfl 4).trans rfl; have b5 : w2.cell? ⟨g1, 5, none⟩ = some (.slice A0_5 l0_5.length c0_5) := (HL.out.box_cell (i := 0) rfl 5).trans rfl; have b6 : w2.cell? ⟨g1, 6, none⟩ = some (.slice A0_6 l0_6.length c0_6) := (HL.out.box_cell (i := 0) rfl 6).trans rfl)
   | ((with_reducible refine gate_callee (f := 18) rfl ?_); refine goesL_ (some 18) rfl rfl Try.func18 (by kernel_rfl) rfl #[] rfl (by (try simp only [List.map_toArray, List.map_cons, List.map_nil]); first | done | rfl) ?_; refine (codewrightlaw51_alive.calls k r _ HAl.out).mono ?_; rintro e w5 ⟨rfl, hb⟩; refine ⟨_, rfl, ?_⟩; have HL1 := Aside0.mk (HL.out.same hb); clear HL hb b0 b1 b2 b3 b4 b5 b6; have HL := HL1; clear HL1; have b0 : w5.cell? ⟨g1, 0, none⟩ = some (.int .i64 a0_0) := (HL.out.box_cell (i := 0) rfl 0).trans rfl; have b1 : w5.cell? ⟨g1, 1, none⟩ = some (.slice A0_1 l0_1.length c0_1) := (HL.out.box_cell (i := 0) rfl 1).trans rfl; have b2 : w5.cell? ⟨g1, 2, none⟩ = some (.int .i64 a0_2) := (HL.out.box_cell (i := 0) rfl 2).trans rfl; have b3 : w5.cell? ⟨g1, 3, none⟩ = some (.int .i64 a0_3) := (HL.out.box_cell (i := 0) rfl 3).trans rfl; have b4 : w5.cell? ⟨g1, 4, none⟩ = some (.int .i64 a0_4) := (HL.out.box_cell (i := 0) rfl 4).trans rfl; have b5 : w5.cell? ⟨g1, 5, none⟩ = some (.slice A0_5 l0_5.length c0_5) := (HL.out.box_cell (i := 0) rfl 5).trans rfl; have b6 : w5.cell? ⟨g1, 6, none⟩ = some (.slice A0_6 l0_6.length c0_6) := (HL.out.box_cell (i := 0) rfl 6).trans rfl)
   )
  go_ret
  exact ⟨rfl, HL.out.hb⟩
 | true =>
  rw [if_pos rfl] at h1
  obtain ⟨⟨rs, e⟩, hq, h2⟩ := Option.bind_eq_some_iff.1 h1
  obtain ⟨x, hx, h3⟩ := Option.bind_eq_some_iff.1 h2
  have HRt := Aside0.mk hq
  have HAc := Aside0.mk hx
  clear h1 h2 hq hx
  simp only at h3
  split at h3
  ·rename_i he
   subst he
   obtain ⟨av, hav, h4⟩ := Option.bind_eq_some_iff.1 h3
   clear h3
   split at h4
   ·rename_i ha
    subst ha
    have HAl := Aside0.mk hav
    clear hav
    split at h4
    ·rename_i he0
     subst he0
     split at h4
     ·rename_i hg
      obtain ⟨g0, g1, g2⟩ := hg
      obtain ⟨⟨lE, vE⟩, hall, h5⟩ := Option.bind_eq_some_iff.1 h4
      clear h4
      simp only at h5
      split at h5
      ·rename_i hg
       obtain ⟨hz, hv⟩ := hg
       replace hv := hv.symm
       subst hv
       obtain rfl := Option.some.inj h5
       have HALL := Aside0.mk hall
       have HZ := Aside0.mk hz
       clear h5 hall hz
       have d9 : decide (l0_1.length < rs.length) = false := decide_eq_false (by omega)
       go_wp2_with (first
        | ((with_reducible refine gate_dst (N := 1) rfl ?_); refine ev_new HL #[.int .i64 a0_0, .slice A0_1 l0_1.length c0_1, .int .i64 a0_2, .int .i64 a0_3, .int .i64 a0_4, .slice A0_5 l0_5.length c0_5, .slice A0_6 l0_6.length c0_6, .slice A0_7 l0_7.length c0_7, .slice A0_8 l0_8.length c0_8] 41 rfl 1 rfl ?hr ?_; (case hr => first | (go_simp; done) | (go_simp; rfl)); intro g1 w1 G1 HL1; clear HL; have HL := HL1; clear HL1; have b0 : w1.cell? ⟨g1, 0, none⟩ = some (.int .i64 a0_0) := (HL.out.box_cell (i := 0) rfl 0).trans rfl; have b1 : w1.cell? ⟨g1, 1, none⟩ = some (.slice A0_1 l0_1.length c0_1) := (HL.out.box_cell (i := 0) rfl 1).trans rfl; have b2 : w1.cell? ⟨g1, 2, none⟩ = some (.int .i64 a0_2) := (HL.out.box_cell (i := 0) rfl 2).trans rfl; have b3 : w1.cell? ⟨g1, 3, none⟩ = some (.int .i64 a0_3) := (HL.out.box_cell (i := 0) rfl 3).trans rfl; have b4 : w1.cell? ⟨g1, 4, none⟩ = some (.int .i64 a0_4) := (HL.out.box_cell (i := 0) rfl 4).trans rfl; have b5 : w1.cell? ⟨g1, 5, none⟩ = some (.slice A0_5 l0_5.length c0_5) := (HL.out.box_cell (i := 0) rfl 5).trans rfl; have b6 : w1.cell? ⟨g1, 6, none⟩ = some (.slice A0_6 l0_6.length c0_6) := (HL.out.box_cell (i := 0) rfl 6).trans rfl)
        | ((with_reducible refine gate_callee (f := 26) rfl ?_); refine goesL_ (some 16) rfl rfl Try.func26 (by kernel_rfl) rfl #[.agg #[.int .i64 a0_0, .slice A0_1 l0_1.length c0_1]] rfl (by (try simp only [List.map_toArray, List.map_cons, List.map_nil]); first | done | rfl) ?_; refine (codewrightlaw51_few.calls k a0_0 A0_1 c0_1 l0_1 true _ (Kd.C_below HR0.out HL.out.hb) hc0_1 HFew.out).mono ?_; rintro e w2 ⟨rfl, hb⟩; refine ⟨_, rfl, ?_⟩; have HL1 := Aside0.mk (HL.out.same hb); clear HL hb b0 b1 b2 b3 b4 b5 b6; have HL := HL1; clear HL1; have b0 : w2.cell? ⟨g1, 0, none⟩ = some (.int .i64 a0_0) := (HL.out.box_cell (i := 0) rfl 0).trans rfl; have b1 : w2.cell? ⟨g1, 1, none⟩ = some (.slice A0_1 l0_1.length c0_1) := (HL.out.box_cell (i := 0) rfl 1).trans rfl; have b2 : w2.cell? ⟨g1, 2, none⟩ = some (.int .i64 a0_2) := (HL.out.box_cell (i := 0) rfl 2).trans rfl; have b3 : w2.cell? ⟨g1, 3, none⟩ = some (.int .i64 a0_3) := (HL.out.box_cell (i := 0) rfl 3).trans rfl; have b4 : w2.cell? ⟨g1, 4, none⟩ = some (.int .i64 a0_4) := (HL.out.box_cell (i := 0) rfl 4).trans rfl; have b5 : w2.cell? ⟨g1, 5, none⟩ = some (.slice A0_5 l0_5.length c0_5) := (HL.out.box_cell (i := 0) rfl 5).trans rfl; have b6 : w2.cell? ⟨g1, 6, none⟩ = some (.slice A0_6 l0_6.length c0_6) := (HL.out.box_cell (i := 0) rfl 6).trans rfl)
        | ((with_reducible refine gate_callee (f := 30) rfl ?_); refine goesL_ (some 28) rfl rfl Try.func30 (by kernel_rfl) rfl #[.agg #[.int .i64 a0_0, .slice A0_1 l0_1.length c0_1], .int .i64 a0_2, .int .i64 a0_3, .agg #[.int .i64 a0_4, .slice A0_5 l0_5.length c0_5, .slice A0_6 l0_6.length c0_6]] rfl (by (try simp only [List.map_toArray, List.map_cons, List.map_nil]); first | done | rfl) ?_; refine (flow_Routes.calls k a0_0 A0_1 c0_1 l0_1 a0_2 a0_3 a0_4 A0_5 c0_5 l0_5 A0_6 c0_6 l0_6 rs 0 _ (Kd.C_below HR0.out HL.out.hb) hc0_1 (Kd.C_below HR5.out HL.out.hb) hc0_5 (Kd.C_below HR6.out HL.out.hb) hc0_6 HRt.out).mono ?_; rintro e w3 ⟨v3, rfl, ho, hb⟩; refine ⟨_, rfl, ?_⟩; (obtain ⟨A3, c3, e_⟩ := Kd.R_slice ho); subst e_; have HL1 := Aside0.mk (HL.out.add_row ho hb); clear HL ho hb b0 b1 b2 b3 b4 b5 b6; have HL := HL1; clear HL1; have b0 : w3.cell? ⟨g1, 0, none⟩ = some (.int .i64 a0_0) := (HL.out.box_cell (i := 0) rfl 0).trans rfl; have b1 : w3.cell? ⟨g1, 1, none⟩ = some (.slice A0_1 l0_1.length c0_1) := (HL.out.box_cell (i := 0) rfl 1).trans rfl; have b2 : w3.cell? ⟨g1, 2, none⟩ = some (.int .i64 a0_2) := (HL.out.box_cell (i := 0) rfl 2).trans rfl; have b3 : w3.cell? ⟨g1, 3, none⟩ = some (.int .i64 a0_3) := (HL.out.box_cell (i := 0) rfl 3).trans rfl; have b4 : w3.cell? ⟨g1, 4, none⟩ = some (.int .i64 a0_4) := (HL.out.box_cell (i := 0) rfl 4).trans rfl; have b5 : w3.cell? ⟨g1, 5, none⟩ = some (.slice A0_5 l0_5.length c0_5) := (HL.out.box_cell (i := 0) rfl 5).trans rfl; have b6 : w3.cell? ⟨g1, 6, none⟩ = some (.slice A0_6 l0_6.length c0_6) := (HL.out.box_cell (i := 0) rfl 6).trans rfl)
        | ((with_reducible refine gate_callee (f := 25) rfl ?_); refine goesL_ (some 39) rfl rfl Try.func25 (by kernel_rfl) rfl #[.agg #[.int .i64 a0_0, .slice A0_1 l0_1.length c0_1], .int .i64 a0_2, .int .i64 a0_3, .agg #[.int .i64 a0_4, .slice A0_5 l0_5.length c0_5, .slice A0_6 l0_6.length c0_6]] rfl (by (try simp only [List.map_toArray, List.map_cons, List.map_nil]); first | done | rfl) ?_; refine (codewrightref51_Accept.calls k a0_0 A0_1 c0_1 l0_1 a0_2 a0_3 a0_4 A0_5 c0_5 l0_5 A0_6 c0_6 l0_6 0 _ (Kd.C_below HR0.out HL.out.hb) hc0_1 (Kd.C_below HR5.out HL.out.hb) hc0_5 (Kd.C_below HR6.out HL.out.hb) hc0_6 HAc.out).mono ?_; rintro e w4 ⟨rfl, hb⟩; refine ⟨_, rfl, ?_⟩; have HL1 := Aside0.mk (HL.out.same hb); clear HL hb b0 b1 b2 b3 b4 b5 b6; have HL := HL1; clear HL1; have b0 : w4.cell? ⟨g1, 0, none⟩ = some (.int .i64 a0_0) := (HL.out.box_cell (i := 0) rfl 0).trans rfl; have b1 : w4.cell? ⟨g1, 1, none⟩ = some (.slice A0_1 l0_1.length c0_1) := (HL.out.box_cell (i := 0) rfl 1).trans rfl; have b2 : w4.cell? ⟨g1, 2, none⟩ = some (.int .i64 a0_2) := (HL.out.box_cell (i := 0) rfl 2).trans rfl; have b3 : w4.cell? ⟨g1, 3, none⟩ = some (.int .i64 a0_3) := (HL.out.box_cell (i := 0) rfl 3).trans rfl; have b4 : w4.cell? ⟨g1, 4, none⟩ = some (.int .i64 a0_4) := (HL.out.box_cell (i := 0) rfl 4).trans rfl; have b5 : w4.cell? ⟨g1, 5, none⟩ = some (.slice A0_5 l0_5.length c0_5) := (HL.out.box_cell (i := 0) rfl 5).trans rfl; have b6 : w4.cell? ⟨g1, 6, none⟩ = some (.slice A0_6 l0_6.length c0_6) := (HL.out.box_cell (i := 0) rfl 6).trans rfl)
        | ((with_reducible refine gate_callee (f := 18) rfl ?_); refine gate_guard (by rfl) ?_; dsimp only; refine goesL_ (some 44) rfl rfl Try.func18 (by kernel_rfl) rfl #[] rfl (by (try simp only [List.map_toArray, List.map_cons, List.map_nil]); first | done | rfl) ?_; refine (codewrightlaw51_alive.calls k true _ HAl.out).mono ?_; rintro e w5 ⟨rfl, hb⟩; refine ⟨_, rfl, ?_⟩; have HL1 := Aside0.mk (HL.out.same hb); clear HL hb b0 b1 b2 b3 b4 b5 b6; have HL := HL1; clear HL1; have b0 : w5.cell? ⟨g1, 0, none⟩ = some (.int .i64 a0_0) := (HL.out.box_cell (i := 0) rfl 0).trans rfl; have b1 : w5.cell? ⟨g1, 1, none⟩ = some (.slice A0_1 l0_1.length c0_1) := (HL.out.box_cell (i := 0) rfl 1).trans rfl; have b2 : w5.cell? ⟨g1, 2, none⟩ = some (.int .i64 a0_2) := (HL.out.box_cell (i := 0) rfl 2).trans rfl; have b3 : w5.cell? ⟨g1, 3, none⟩ = some (.int .i64 a0_3) := (HL.out.box_cell (i := 0) rfl 3).trans rfl; have b4 : w5.cell? ⟨g1, 4, none⟩ = some (.int .i64 a0_4) := (HL.out.box_cell (i := 0) rfl 4).trans rfl; have b5 : w5.cell? ⟨g1, 5, none⟩ = some (.slice A0_5 l0_5.length c0_5) := (HL.out.box_cell (i := 0) rfl 5).trans rfl; have b6 : w5.cell? ⟨g1, 6, none⟩ = some (.slice A0_6 l0_6.length c0_6) := (HL.out.box_cell (i := 0) rfl 6).trans rfl)
        | ((with_reducible refine gate_dst (N := 59) rfl ?_); refine ev_lit0 HL (Kd.int .i64) 3 59 rfl rfl ?hr ?_; (case hr => first | (go_simp; done) | (go_simp; rfl)); intro v59 w7 HL1; clear HL b0 b1 b2 b3 b4 b5 b6; have HL := HL1; clear HL1; have b0 : w7.cell? ⟨g1, 0, none⟩ = some (.int .i64 a0_0) := (HL.out.box_cell (i := 0) rfl 0).trans rfl; have b1 : w7.cell? ⟨g1, 1, none⟩ = some (.slice A0_1 l0_1.length c0_1) := (HL.out.box_cell (i := 0) rfl 1).trans rfl; have b2 : w7.cell? ⟨g1, 2, none⟩ = some (.int .i64 a0_2) := (HL.out.box_cell (i := 0) rfl 2).trans rfl; have b3 : w7.cell? ⟨g1, 3, none⟩ = some (.int .i64 a0_3) := (HL.out.box_cell (i := 0) rfl 3).trans rfl; have b4 : w7.cell? ⟨g1, 4, none⟩ = some (.int .i64 a0_4) := (HL.out.box_cell (i := 0) rfl 4).trans rfl; have b5 : w7.cell? ⟨g1, 5, none⟩ = some (.slice A0_5 l0_5.length c0_5) := (HL.out.box_cell (i := 0) rfl 5).trans rfl; have b6 : w7.cell? ⟨g1, 6, none⟩ = some (.slice A0_6 l0_6.length c0_6) := (HL.out.box_cell (i := 0) rfl 6).trans rfl)
        | ((with_reducible refine gate_builtin (b := .append) (xs := #[.tmp 59, .tmp 62]) rfl ?_); at_builtin; refine ev_rows HL (i := 2) rfl l0_5 A0_5 c0_5 (.tmp 59) (.tmp 62) 33 (.int .i64 0) 8 rfl rfl Try.underlying33 info3 rfl (by decide) (by decide) rfl rfl (Kd.C_below HR5.out HL.out.hb) (fun _ _ h => h) (by simp only [List.length_nil, Nat.zero_add]; omega) ?_; intro v63 w8 HL1; (rw [List.nil_append] at HL1); clear HL b0 b1 b2 b3 b4 b5 b6; have HL := HL1; clear HL1; (obtain ⟨A6, c6, e_⟩ := Kd.R_slice (HL.out.row (i := 2) rfl)); subst e_; have b0 : w8.cell? ⟨g1, 0, none⟩ = some (.int .i64 a0_0) := (HL.out.box_cell (i := 0) rfl 0).trans rfl; have b1 : w8.cell? ⟨g1, 1, none⟩ = some (.slice A0_1 l0_1.length c0_1) := (HL.out.box_cell (i := 0) rfl 1).trans rfl; have b2 : w8.cell? ⟨g1, 2, none⟩ = some (.int .i64 a0_2) := (HL.out.box_cell (i := 0) rfl 2).trans rfl; have b3 : w8.cell? ⟨g1, 3, none⟩ = some (.int .i64 a0_3) := (HL.out.box_cell (i := 0) rfl 3).trans rfl; have b4 : w8.cell? ⟨g1, 4, none⟩ = some (.int .i64 a0_4) := (HL.out.box_cell (i := 0) rfl 4).trans rfl; have b5 : w8.cell? ⟨g1, 5, none⟩ = some (.slice A0_5 l0_5.length c0_5) := (HL.out.box_cell (i := 0) rfl 5).trans rfl; have b6 : w8.cell? ⟨g1, 6, none⟩ = some (.slice A0_6 l0_6.length c0_6) := (HL.out.box_cell (i := 0) rfl 6).trans rfl)
        )
       clear b0 b1 b2 b3 b4 b5 b6 d9
       go_loopg [7, 8, 9, 10, 11, 12] rs.length (fun gk v7 v8 _ _ _ _ wr => ∃ (j : Nat) (left : List Int) (value : Int), v7 = .int .i64 value ∧ v8 = .int .i64 (j : Int) ∧ Aside0 (rs.length = j + gk) ∧ Aside0 (lrAll a0_0 l0_1 a0_2 a0_3 (rs.drop j) left value = some (lE, a0_4)) ∧ Aside0 (left.length = l0_5.length) ∧ Aside0 (Live w wr [Box g1 #[.int .i64 a0_0, .slice A0_1 l0_1.length c0_1, .int .i64 a0_2, .int .i64 a0_3, .int .i64 a0_4, .slice A0_5 l0_5.length c0_5, .slice A0_6 l0_6.length c0_6, .slice A0_7 l0_7.length c0_7, .slice A0_8 l0_8.length c0_8] 41, Row w.heap.size k63 63 (.slice A3 rs.length c3) rs, Row w.heap.size (Kd.int .i64) 3 (.slice A6 l0_5.length c6) left]))
       case atStart => exact ⟨0, l0_5, _, rfl, rfl, ⟨by omega⟩, HALL, ⟨rfl⟩, HL⟩
       case round =>
        clear HL HALL HFew HRt HAc HAl
        obtain ⟨j, left, value, rfl, rfl, HK, HALL, HLL, HL⟩ := hrel
        have b0 : wr.cell? ⟨g1, 0, none⟩ = some (.int .i64 a0_0) := (HL.out.box_cell (i := 0) rfl 0).trans rfl
        have b1 : wr.cell? ⟨g1, 1, none⟩ = some (.slice A0_1 l0_1.length c0_1) := (HL.out.box_cell (i := 0) rfl 1).trans rfl
        have b2 : wr.cell? ⟨g1, 2, none⟩ = some (.int .i64 a0_2) := (HL.out.box_cell (i := 0) rfl 2).trans rfl
        have b3 : wr.cell? ⟨g1, 3, none⟩ = some (.int .i64 a0_3) := (HL.out.box_cell (i := 0) rfl 3).trans rfl
        have b4 : wr.cell? ⟨g1, 4, none⟩ = some (.int .i64 a0_4) := (HL.out.box_cell (i := 0) rfl 4).trans rfl
        have b5 : wr.cell? ⟨g1, 5, none⟩ = some (.slice A0_5 l0_5.length c0_5) := (HL.out.box_cell (i := 0) rfl 5).trans rfl
        have b6 : wr.cell? ⟨g1, 6, none⟩ = some (.slice A0_6 l0_6.length c0_6) := (HL.out.box_cell (i := 0) rfl 6).trans rfl
        cases gk with
        | zero =>
         have hj : decide (j < rs.length) = false := decide_eq_false (by have := HK.out; omega)
         have h1 := HALL.out
         rw [List.drop_of_length_le (by have := HK.out; omega), lrAll] at h1
         simp only [Option.some.injEq, Prod.mk.injEq] at h1
         obtain ⟨rfl, hv⟩ := h1
         replace hv := hv.symm
         subst hv
         clear HALL HK
         go_wp2
         clear b0 b1 b2 b3 b4 b5 b6
         go_loopg [13] l0_5.length (fun gk v13 wr => ∃ j : Nat, v13 = .int .i64 (j : Int) ∧ Aside0 (l0_5.length = j + gk) ∧ Aside0 (Live w wr [Box g1 #[.int .i64 a0_0, .slice A0_1 l0_1.length c0_1, .int .i64 a0_2, .int .i64 a0_3, .int .i64 a0_4, .slice A0_5 l0_5.length c0_5, .slice A0_6 l0_6.length c0_6, .slice A0_7 l0_7.length c0_7, .slice A0_8 l0_8.length c0_8] 41, Row w.heap.size k63 63 (.slice A3 rs.length c3) rs, Row w.heap.size (Kd.int .i64) 3 (.slice A6 l0_5.length c6) left]))
         case atStart => exact ⟨0, rfl, ⟨by omega⟩, HL⟩
         case round =>
          clear HL hj
          obtain ⟨j, rfl, HK, HL⟩ := hrel
          have b0 : wr.cell? ⟨g1, 0, none⟩ = some (.int .i64 a0_0) := (HL.out.box_cell (i := 0) rfl 0).trans rfl
          have b1 : wr.cell? ⟨g1, 1, none⟩ = some (.slice A0_1 l0_1.length c0_1) := (HL.out.box_cell (i := 0) rfl 1).trans rfl
          have b2 : wr.cell? ⟨g1, 2, none⟩ = some (.int .i64 a0_2) := (HL.out.box_cell (i := 0) rfl 2).trans rfl
          have b3 : wr.cell? ⟨g1, 3, none⟩ = some (.int .i64 a0_3) := (HL.out.box_cell (i := 0) rfl 3).trans rfl
          have b4 : wr.cell? ⟨g1, 4, none⟩ = some (.int .i64 a0_4) := (HL.out.box_cell (i := 0) rfl 4).trans rfl
          have b5 : wr.cell? ⟨g1, 5, none⟩ = some (.slice A0_5 l0_5.length c0_5) := (HL.out.box_cell (i := 0) rfl 5).trans rfl
          have b6 : wr.cell? ⟨g1, 6, none⟩ = some (.slice A0_6 l0_6.length c0_6) := (HL.out.box_cell (i := 0) rfl 6).trans rfl
          cases gk with
          | zero =>
           have hj : decide (j < l0_5.length) = false := decide_eq_false (by have := HK.out; omega)
           go_wp2
           go_ret
           exact ⟨rfl, HL.out.hb⟩
          | succ g2 =>
           have hj : decide (j < l0_5.length) = true := decide_eq_true (by have := HK.out; omega)
           have hjz : (j : Int) < (l0_5.length : Int) := by have := HK.out; omega
           have hjb : j + 1 < 9223372036854775808 := by omega
           obtain ⟨ad, e_, xa⟩ := Kd.at_int (Kd.R_reads' (HL.out.row (i := 2) rfl)).2.2 (j : Int) (by omega) (by have := HLL.out; omega)
           subst e_
           rw [show ((j : Int)).toNat = j from rfl, show rd left (j : Int) = 0 from by
            have hk : j < left.length := by have := HLL.out; omega
            have := HZ.out left[j] (List.getElem_mem hk)
            simpa [rd, List.getD, hk] using this] at xa
           go_wp2
           go_roundg g2
           case measure => omega
           case rel => exact ⟨j + 1, by go_num, ⟨by have := HK.out; omega⟩, HL⟩
        | succ g2 =>
         have hj : decide (j < rs.length) = true := decide_eq_true (by have := HK.out; omega)
         have hjz : (j : Int) < (rs.length : Int) := by have := HK.out; omega
         have hjb : j + 1 < 9223372036854775808 := by omega
         obtain ⟨rt, hrt⟩ : ∃ rt, Aside0 (rd_T63 rs (j : Int) = rt) := ⟨_, ⟨rfl⟩⟩
         have h1 := HALL.out
         rw [show rs.drop j = rd_T63 rs (j : Int) :: rs.drop (j + 1) by
          have hk : j < rs.length := by have := HK.out; omega
          rw [List.drop_eq_getElem_cons hk]; simp [rd_T63, List.getD, hk], hrt.out, lrAll] at h1
         obtain ⟨path, hpath, h2⟩ := Option.bind_eq_some_iff.1 h1
         obtain ⟨left2, hsub, h3⟩ := Option.bind_eq_some_iff.1 h2
         have HP := Aside0.mk hpath
         have HSub := Aside0.mk hsub
         have HN := Aside0.mk h3
         clear HALL h1 h2 h3 hpath hsub
         go_upto_region 16 with (fail)
         go_cut [9, 10] from 70 to 83 (fun v9 v10 wd => v9 = .bool true ∧ v10 = .bool path ∧ Aside0 (Live w wd [Box g1 #[.int .i64 a0_0, .slice A0_1 l0_1.length c0_1, .int .i64 a0_2, .int .i64 a0_3, .int .i64 a0_4, .slice A0_5 l0_5.length c0_5, .slice A0_6 l0_6.length c0_6, .slice A0_7 l0_7.length c0_7, .slice A0_8 l0_8.length c0_8] 41, Row w.heap.size k63 63 (.slice A3 rs.length c3) rs, Row w.heap.size (Kd.int .i64) 3 (.slice A6 l0_5.length c6) left]))
         case first =>
          clear HSub HN b0 b1 b2 b3 b4 b5 b6 hj
          obtain ⟨adr, A', c', e_, xr0, xr1, hl', HC'⟩ := at_T63 (Kd.R_reads' (HL.out.row (i := 1) rfl)).2.2 (j : Int) (by omega) hjz
          subst e_
          rw [show ((j : Int)).toNat = j from rfl, hrt.out] at xr0 xr1
          rw [hrt.out] at HC' hl'
          have XR := Aside0.mk HC'
          clear HC' hl'
          have XX0 := (show wr.drew.cell? _ = _ from xr0)
          have XX1 := (show wr.drew.cell? _ = _ from xr1)
          have XC : Kd.C (Kd.int .i64) wr.drew A' rt.f0.length rt.f0 := XR.out
          clear xr0 xr1
          replace HL := HL.out.drew
          refine start_ (n := 16) (S := fun w' => w'.cell? ⟨g1, 0, none⟩ = some (.int .i64 a0_0) ∧ w'.cell? ⟨g1, 1, none⟩ = some (.slice A0_1 l0_1.length c0_1) ∧ w'.cell? ⟨g1, 2, none⟩ = some (.int .i64 a0_2) ∧ w'.cell? ⟨g1, 3, none⟩ = some (.int .i64 a0_3) ∧ w'.cell? (adr.add (j * 2)) = some (.slice A' rt.f0.length c') ∧ w'.cell? ⟨(adr.add (j * 2)).block, (adr.add (j * 2)).off + 1, none⟩ = some (.int .i64 rt.f1)) (ds := []) #[false, false, false, false, false, false, false, false, false, false, false, false, false, false, false, false] (by kernel_rfl) rfl rfl ⟨(HL.box_cell (i := 0) rfl 0).trans rfl, (HL.box_cell (i := 0) rfl 1).trans rfl, (HL.box_cell (i := 0) rfl 2).trans rfl, (HL.box_cell (i := 0) rfl 3).trans rfl, XX0, XX1⟩ (fun hHeld => ?_); refine with_tabW tab11_16 bits11_16 (fun HT_ HW_ => ?_)
          generalize wr.drew = wd_ at HL hHeld XX0 XX1 XC ⊢
          refine pure_ (i := 0) (N := some 71) (v := ?_) (a' := ?_) #[true, false, false, false, false, false, false, false, false, false, false, false, false, false, false, false] rfl rfl (any_of HT_.out (by kernel_rfl)) (fun _ _ _ h => h) (Or.inl ⟨by rfl, ?_⟩) ?_ ?_; (rotate_left; · intro w'; go_simp; with_reducible rfl); (rotate_left; · simp only [Act.put, List.setIfInBounds_toArray, List.set_cons_zero, List.set_cons_succ, i64_w, i32_w]; rfl)
          refine pure_ (i := 2) (N := some 73) (v := ?_) (a' := ?_) #[true, false, true, false, false, false, false, false, false, false, false, false, false, false, false, false] rfl rfl (any_of HT_.out (by kernel_rfl)) (fun _ _ _ h => h) (Or.inl ⟨by rfl, ?_⟩) ?_ ?_; (rotate_left; · intro w'; go_simp; with_reducible rfl); (rotate_left; · simp only [Act.put, List.setIfInBounds_toArray, List.set_cons_zero, List.set_cons_succ, i64_w, i32_w]; rfl)
          refine pure_ (i := 4) (N := some 75) (v := ?_) (a' := ?_) #[true, false, true, false, true, false, false, false, false, false, false, false, false, false, false, false] rfl rfl (any_of HT_.out (by kernel_rfl)) (fun _ _ _ h => h) (Or.inl ⟨by rfl, ?_⟩) ?_ ?_; (rotate_left; · intro w'; go_simp; with_reducible rfl); (rotate_left; · simp only [Act.put, List.setIfInBounds_toArray, List.set_cons_zero, List.set_cons_succ, i64_w, i32_w]; rfl)
          refine pure_ (i := 6) (N := some 77) (v := ?_) (a' := ?_) #[true, false, true, false, true, false, true, false, false, false, false, false, false, false, false, false] rfl rfl (any_of HT_.out (by kernel_rfl)) (fun _ _ _ h => h) (Or.inl ⟨by rfl, ?_⟩) ?_ ?_; (rotate_left; · intro w'; go_simp; with_reducible rfl); (rotate_left; · simp only [Act.put, List.setIfInBounds_toArray, List.set_cons_zero, List.set_cons_succ, i64_w, i32_w]; rfl)
          refine pure_ (i := 7) (N := some 78) (v := ?_) (a' := ?_) #[true, false, true, false, true, false, true, true, false, false, false, false, false, false, false, false] rfl rfl (any_of HT_.out (by kernel_rfl)) (fun _ _ _ h => h) (Or.inl ⟨by rfl, ?_⟩) ?_ ?_; (rotate_left; · intro w'; go_simp; with_reducible rfl); (rotate_left; · simp only [Act.put, List.setIfInBounds_toArray, List.set_cons_zero, List.set_cons_succ, i64_w, i32_w]; rfl)
          refine take_ (i := 1) (N := some 72) (v := ?_) (a' := ?_) #[true, true, true, false, true, false, true, true, false, false, false, false, false, false, false, false] rfl rfl (take_ofW HT_.out HW_.out (by kernel_rfl)) (fun _ _ _ h => h) (Or.inl ⟨by rfl, ?_⟩) hHeld ?_ ?_; (rotate_left; · rintro w' ⟨s0, s1, s2, s3, s4, s5⟩; go_simp; with_reducible rfl); (rotate_left; · simp only [Act.put, List.setIfInBounds_toArray, List.set_cons_zero, List.set_cons_succ, i64_w, i32_w]; rfl)
          refine take_ (i := 3) (N := some 74) (v := ?_) (a' := ?_) #[true, true, true, true, true, false, true, true, false, false, false, false, false, false, false, false] rfl rfl (take_ofW HT_.out HW_.out (by kernel_rfl)) (fun _ _ _ h => h) (Or.inl ⟨by rfl, ?_⟩) hHeld ?_ ?_; (rotate_left; · rintro w' ⟨s0, s1, s2, s3, s4, s5⟩; go_simp; with_reducible rfl); (rotate_left; · simp only [Act.put, List.setIfInBounds_toArray, List.set_cons_zero, List.set_cons_succ, i64_w, i32_w]; rfl)
          refine take_ (i := 5) (N := some 76) (v := ?_) (a' := ?_) #[true, true, true, true, true, true, true, true, false, false, false, false, false, false, false, false] rfl rfl (take_ofW HT_.out HW_.out (by kernel_rfl)) (fun _ _ _ h => h) (Or.inl ⟨by rfl, ?_⟩) hHeld ?_ ?_; (rotate_left; · rintro w' ⟨s0, s1, s2, s3, s4, s5⟩; go_simp; with_reducible rfl); (rotate_left; · simp only [Act.put, List.setIfInBounds_toArray, List.set_cons_zero, List.set_cons_succ, i64_w, i32_w]; rfl)
          refine pure_ (i := 8) (N := some 79) (v := ?_) (a' := ?_) #[true, true, true, true, true, true, true, true, true, false, false, false, false, false, false, false] rfl rfl (any_of HT_.out (by kernel_rfl)) (fun _ _ _ h => h) (Or.inl ⟨by rfl, ?_⟩) ?_ ?_; (rotate_left; · intro w'; go_simp; with_reducible rfl); (rotate_left; · simp only [Act.put, List.setIfInBounds_toArray, List.set_cons_zero, List.set_cons_succ, i64_w, i32_w]; rfl)
          refine take_ (i := 9) (N := some 80) (v := ?_) (a' := ?_) #[true, true, true, true, true, true, true, true, true, true, false, false, false, false, false, false] rfl rfl (take_ofW HT_.out HW_.out (by kernel_rfl)) (fun _ _ _ h => h) (Or.inl ⟨by rfl, ?_⟩) hHeld ?_ ?_; (rotate_left; · rintro w' ⟨s0, s1, s2, s3, s4, s5⟩; go_simp; with_reducible rfl); (rotate_left; · simp only [Act.put, List.setIfInBounds_toArray, List.set_cons_zero, List.set_cons_succ, i64_w, i32_w]; rfl)
          refine one_ (i := 10) (N := some 81) #[true, true, true, true, true, true, true, true, true, true, true, false, false, false, false, false] rfl rfl (one_of HT_.out (by kernel_rfl)) (by decide) (fun K hK => ?_)
          refine goes_ Try.func31 (by kernel_rfl) rfl #[.agg #[.int .i64 a0_0, .slice A0_1 l0_1.length c0_1], .int .i64 a0_2, .int .i64 a0_3, .agg #[.slice A' rt.f0.length c', .int .i64 rt.f1]] (by rfl) rfl rfl (by (try simp only [List.map_toArray, List.map_cons, List.map_nil]); first | done | rfl) ?_
          refine (isRoute_calls a0_0 A0_1 c0_1 l0_1 a0_2 a0_3 A' c' rt.f0 rt.f1 path wd_ (Kd.C_below HR0.out HL.hb) XC HP.out).mono ?_
          rintro e wA ⟨rfl, hb⟩
          refine ⟨_, rfl, ?_⟩
          have HL2 := HL.same hb
          replace XX0 := (hb.cell (World.block_lt_of_cell? wd_ _ XX0)).trans XX0
          replace XX1 := (hb.cell (World.block_lt_of_cell? wd_ _ XX1)).trans XX1
          clear hb XC
          refine hK.out _ _ ⟨(HL2.box_cell (i := 0) rfl 0).trans rfl, (HL2.box_cell (i := 0) rfl 1).trans rfl, (HL2.box_cell (i := 0) rfl 2).trans rfl, (HL2.box_cell (i := 0) rfl 3).trans rfl, XX0, XX1⟩ (fun hHeld => ?_)
          clear hK K; refine norm_ (a' := ?_) ?_ ?_; (rotate_left; · show Act.put _ (some 81) _ = _; simp only [Act.put, List.setIfInBounds_toArray, List.set_cons_zero, List.set_cons_succ, i64_w, i32_w]; rfl)
          clear HL; have HL := HL2; clear HL2
          refine pure_ (i := 11) (N := some 70) (v := ?_) (a' := ?_) #[true, true, true, true, true, true, true, true, true, true, true, true, false, false, false, false] rfl rfl (any_of HT_.out (by kernel_rfl)) (fun _ _ _ h => h) (Or.inl ⟨by rfl, ?_⟩) ?_ ?_; (rotate_left; · intro w'; go_simp; with_reducible rfl); (rotate_left; · simp only [Act.put, List.setIfInBounds_toArray, List.set_cons_zero, List.set_cons_succ, i64_w, i32_w]; rfl)
          refine pure_ (i := 12) (N := some 82) (v := ?_) (a' := ?_) #[true, true, true, true, true, true, true, true, true, true, true, true, true, false, false, false] rfl rfl (any_of HT_.out (by kernel_rfl)) (fun _ _ _ h => h) (Or.inl ⟨by rfl, ?_⟩) ?_ ?_; (rotate_left; · intro w'; go_simp; with_reducible rfl); (rotate_left; · simp only [Act.put, List.setIfInBounds_toArray, List.set_cons_zero, List.set_cons_succ, i64_w, i32_w]; rfl)
          refine pure_ (i := 13) (N := some 83) (v := ?_) (a' := ?_) #[true, true, true, true, true, true, true, true, true, true, true, true, true, true, false, false] rfl rfl (any_of HT_.out (by kernel_rfl)) (fun _ _ _ h => h) (Or.inl ⟨by rfl, ?_⟩) ?_ ?_; (rotate_left; · intro w'; go_simp; with_reducible rfl); (rotate_left; · simp only [Act.put, List.setIfInBounds_toArray, List.set_cons_zero, List.set_cons_succ, i64_w, i32_w]; rfl)
          refine pure_ (i := 14) (N := some 9) (v := ?_) (a' := ?_) #[true, true, true, true, true, true, true, true, true, true, true, true, true, true, true, false] rfl rfl (any_of HT_.out (by kernel_rfl)) (fun _ _ _ h => h) (Or.inl ⟨by rfl, ?_⟩) ?_ ?_; (rotate_left; · intro w'; go_simp; with_reducible rfl); (rotate_left; · simp only [Act.put, List.setIfInBounds_toArray, List.set_cons_zero, List.set_cons_succ, i64_w, i32_w]; rfl)
          refine pure_ (i := 15) (N := some 10) (v := ?_) (a' := ?_) #[true, true, true, true, true, true, true, true, true, true, true, true, true, true, true, true] rfl rfl (any_of HT_.out (by kernel_rfl)) (fun _ _ _ h => h) (Or.inl ⟨by rfl, ?_⟩) ?_ ?_; (rotate_left; · intro w'; go_simp; with_reducible rfl); (rotate_left; · simp only [Act.put, List.setIfInBounds_toArray, List.set_cons_zero, List.set_cons_succ, i64_w, i32_w]; rfl)
          refine done_ (done_of HT_.out (by kernel_rfl)) ?_
          clear HT_ HW_
          go_wp2
          go_meet
          case rel => exact ⟨rfl, rfl, ⟨HL⟩⟩
         case rest =>
          clear HL b0 b1 b2 b3 b4 b5 b6 HP
          obtain ⟨rfl, rfl, HL⟩ := hcut
          obtain ⟨adr, A', c', e_, xr0, xr1, hl', HC'⟩ := at_T63 (Kd.R_reads' (HL.out.row (i := 1) rfl)).2.2 (j : Int) (by omega) hjz
          subst e_
          clear xr0 xr1 hl' HC'
          go_wp2
          go_loopg [11, 12] rt.f0.length (fun gk v11 _ wr => ∃ (m : Nat) (lf : List Int), v11 = .int .i64 (m : Int) ∧ Aside0 (rt.f0.length = m + gk) ∧ Aside0 (lrSub rt.f1 (rt.f0.drop m) lf = some left2) ∧ Aside0 (lf.length = l0_5.length) ∧ Aside0 (Live w wr [Box g1 #[.int .i64 a0_0, .slice A0_1 l0_1.length c0_1, .int .i64 a0_2, .int .i64 a0_3, .int .i64 a0_4, .slice A0_5 l0_5.length c0_5, .slice A0_6 l0_6.length c0_6, .slice A0_7 l0_7.length c0_7, .slice A0_8 l0_8.length c0_8] 41, Row w.heap.size k63 63 (.slice (some adr) rs.length c3) rs, Row w.heap.size (Kd.int .i64) 3 (.slice A6 l0_5.length c6) lf]))
          case atStart => exact ⟨0, left, rfl, ⟨by omega⟩, HSub, HLL, HL⟩
          case round =>
           clear HL HSub HLL hj
           obtain ⟨m, lf, rfl, HM, HSub, HLL, HL⟩ := hrel
           obtain ⟨adr', A', c', e_, xr0, xr1, hl', HC'⟩ := at_T63 (Kd.R_reads' (HL.out.row (i := 1) rfl)).2.2 (j : Int) (by omega) hjz
           obtain rfl := Option.some.inj e_
           rw [show ((j : Int)).toNat = j from rfl, hrt.out] at xr0 xr1
           rw [hrt.out] at HC' hl'
           have XR := Aside0.mk HC'
           clear HC' hl'
           cases gk with
           | zero =>
            have hm : decide (m < rt.f0.length) = false := decide_eq_false (by have := HM.out; omega)
            have hfin : lf = left2 := by
             have h1 := HSub.out
             rw [List.drop_of_length_le (by have := HM.out; omega)] at h1
             exact Option.some.inj h1
            subst hfin
            clear HSub HM
            cases path with
            | true =>
             replace HN := Aside0.mk (show lrAll a0_0 l0_1 a0_2 a0_3 (rs.drop (j + 1)) lf (wrap64 (value + rt.f1)) = some (lE, a0_4) from HN.out)
             go_wp2
             go_roundg g2
             case measure => omega
             case rel => exact ⟨j + 1, lf, _, rfl, by go_num, ⟨by have := HK.out; omega⟩, HN, HLL, HL⟩
            | false =>
             replace HN := Aside0.mk (show lrAll a0_0 l0_1 a0_2 a0_3 (rs.drop (j + 1)) lf value = some (lE, a0_4) from HN.out)
             go_wp2
             go_roundg g2
             case measure => omega
             case rel => exact ⟨j + 1, lf, _, rfl, by go_num, ⟨by have := HK.out; omega⟩, HN, HLL, HL⟩
           | succ g3 =>
            have hm : decide (m < rt.f0.length) = true := decide_eq_true (by have := HM.out; omega)
            have hmz : (m : Int) < (rt.f0.length : Int) := by have := HM.out; omega
            have hmb : m + 1 < 9223372036854775808 := by have := HM.out; have := XR.out.2.1; omega
            obtain ⟨ada, e_, xa⟩ := Kd.at_int XR.out (m : Int) (by omega) hmz
            subst e_
            rw [show ((m : Int)).toNat = m from rfl] at xa
            have h1 := HSub.out
            rw [show rt.f0.drop m = rd rt.f0 (m : Int) :: rt.f0.drop (m + 1) by
             have hk : m < rt.f0.length := by have := HM.out; omega
             rw [List.drop_eq_getElem_cons hk]; simp [rd, List.getD, hk], lrSub] at h1
            clear HSub
            generalize rd rt.f0 (m : Int) = i at xa h1
            split at h1
            ·rename_i hg
             obtain ⟨u0, u1, u2⟩ := hg
             obtain ⟨i, rfl⟩ : ∃ q : Nat, i = (q : Int) := ⟨i.toNat, by omega⟩
             rw [show ((i : Int)).toNat = i from rfl] at h1
             have u3 : (i : Int) < (l0_5.length : Int) := by have := HLL.out; omega
             obtain ⟨gl, pl, el, -, -, -⟩ := Kd.R_form (HL.out.row (i := 2) rfl) (by have := HLL.out; omega)
             injection el with e1 e2 e3
             subst e1 e3
             clear e2
             obtain ⟨xl, fl⟩ := Kd.R_celln 0 (HL.out.row (i := 2) rfl) (i : Int) (by omega) u3
             rw [show ((i : Int)).toNat = i from rfl] at xl fl
             replace xl : wr.cell? ⟨gl, i, none⟩ = some (.int .i64 (rd lf (i : Int))) := xl
             obtain ⟨z, hz_⟩ : ∃ z, Aside0 (rd lf (i : Int) = z) := ⟨_, ⟨rfl⟩⟩
             rw [hz_.out] at xl u2
             have HSub := Aside0.mk h1
             have d3 : decide (z < rt.f1) = false := decide_eq_false (by omega)
             clear h1 u1 u2
             go_upto_region 23 with (fail)
             go_cut [113] from 104 to 113 (fun v113 wd => v113 = .bool false ∧ Aside0 (Live w wd [Box g1 #[.int .i64 a0_0, .slice A0_1 l0_1.length c0_1, .int .i64 a0_2, .int .i64 a0_3, .int .i64 a0_4, .slice A0_5 l0_5.length c0_5, .slice A0_6 l0_6.length c0_6, .slice A0_7 l0_7.length c0_7, .slice A0_8 l0_8.length c0_8] 41, Row w.heap.size k63 63 (.slice (some adr) rs.length c3) rs, Row w.heap.size (Kd.int .i64) 3 (.slice (some ⟨gl, 0, none⟩) l0_5.length c6) lf]))
             case first =>
              clear HSub HN xa fl
              go_quiet (fail)
              go_wp2
              go_meet
              case rel => exact ⟨rfl, ⟨HL.out.drewN _⟩⟩
             case rest =>
              clear HL xr0 xr1 xa xl fl d3
              obtain ⟨rfl, HL⟩ := hcut
              go_upto_region 25 with (fail)
              obtain ⟨adr', A'', c'', e_, -, xr1, -, -⟩ := at_T63 (Kd.R_reads' (HL.out.row (i := 1) rfl)).2.2 (j : Int) (by omega) hjz
              obtain rfl := Option.some.inj e_
              rw [show ((j : Int)).toNat = j from rfl, hrt.out] at xr1
              obtain ⟨xl, fl⟩ := Kd.R_celln 0 (HL.out.row (i := 2) rfl) (i : Int) (by omega) u3
              rw [show ((i : Int)).toNat = i from rfl] at xl fl
              have HPUT := HL.out.drew.put (i := 2) (enc := Value.int .i64) rfl (i : Int) (wrap64 (rd lf (i : Int) - rt.f1))
              replace xl : wc.cell? ⟨gl, i, none⟩ = some (.int .i64 (rd lf (i : Int))) := xl
              have XX0 := (show wc.drew.cell? _ = _ from xl)
              have XX1 := (show wc.drew.cell? _ = _ from xr1)
              have FL : wc.drew.frozen? _ = _ := fl
              clear xl xr1 fl
              replace HL := HL.out.drew
              refine start_ (n := 12) (S := fun w' => w'.cell? ⟨gl, i, none⟩ = some (.int .i64 (rd lf (i : Int))) ∧ w'.cell? ⟨(adr.add (j * 2)).block, (adr.add (j * 2)).off + 1, none⟩ = some (.int .i64 rt.f1)) (ds := [11]) #[false, false, false, false, false, false, false, false, false, false, false, false] (by kernel_rfl) rfl rfl ⟨XX0, XX1⟩ (fun hHeld => ?_); refine with_tabW tab11_25 bits11_25 (fun HT_ HW_ => ?_)
              generalize wc.drew = wd_ at HL hHeld XX0 XX1 FL HPUT ⊢
              refine pure_ (i := 0) (N := some 114) (v := ?_) (a' := ?_) #[true, false, false, false, false, false, false, false, false, false, false, false] rfl rfl (any_of HT_.out (by kernel_rfl)) (fun _ _ _ h => h) (Or.inl ⟨by rfl, ?_⟩) ?_ ?_; (rotate_left; · intro w'; go_simp; with_reducible rfl); (rotate_left; · simp only [Act.put, List.setIfInBounds_toArray, List.set_cons_zero, List.set_cons_succ, i64_w, i32_w]; rfl)
              refine pure_ (i := 1) (N := some 115) (v := ?_) (a' := ?_) #[true, true, false, false, false, false, false, false, false, false, false, false] rfl rfl (any_of HT_.out (by kernel_rfl)) (fun _ _ _ h => h) (Or.inl ⟨by rfl, ?_⟩) ?_ ?_; (rotate_left; · intro w'; go_simp; with_reducible rfl); (rotate_left; · simp only [Act.put, List.setIfInBounds_toArray, List.set_cons_zero, List.set_cons_succ, i64_w, i32_w]; rfl)
              refine pure_ (i := 4) (N := some 118) (v := ?_) (a' := ?_) #[true, true, false, false, true, false, false, false, false, false, false, false] rfl rfl (any_of HT_.out (by kernel_rfl)) (fun _ _ _ h => h) (Or.inl ⟨by rfl, ?_⟩) ?_ ?_; (rotate_left; · intro w'; go_simp; with_reducible rfl); (rotate_left; · simp only [Act.put, List.setIfInBounds_toArray, List.set_cons_zero, List.set_cons_succ, i64_w, i32_w]; rfl)
              refine pure_ (i := 5) (N := some 119) (v := ?_) (a' := ?_) #[true, true, false, false, true, true, false, false, false, false, false, false] rfl rfl (any_of HT_.out (by kernel_rfl)) (fun _ _ _ h => h) (Or.inl ⟨by rfl, ?_⟩) ?_ ?_; (rotate_left; · intro w'; go_simp; with_reducible rfl); (rotate_left; · simp only [Act.put, List.setIfInBounds_toArray, List.set_cons_zero, List.set_cons_succ, i64_w, i32_w]; rfl)
              refine pure_ (i := 2) (N := some 116) (v := ?_) (a' := ?_) #[true, true, true, false, true, true, false, false, false, false, false, false] rfl rfl (any_of HT_.out (by kernel_rfl)) (fun _ _ _ h => h) (Or.inl ⟨by rfl, ?_⟩) ?_ ?_; (rotate_left; · intro w'; go_simp; with_reducible rfl); (rotate_left; · simp only [Act.put, List.setIfInBounds_toArray, List.set_cons_zero, List.set_cons_succ, i64_w, i32_w]; rfl)
              refine pure_ (i := 6) (N := some 120) (v := ?_) (a' := ?_) #[true, true, true, false, true, true, true, false, false, false, false, false] rfl rfl (any_of HT_.out (by kernel_rfl)) (fun _ _ _ h => h) (Or.inl ⟨by rfl, ?_⟩) ?_ ?_; (rotate_left; · intro w'; go_simp; with_reducible rfl); (rotate_left; · simp only [Act.put, List.setIfInBounds_toArray, List.set_cons_zero, List.set_cons_succ, i64_w, i32_w]; rfl)
              refine pure_ (i := 7) (N := some 121) (v := ?_) (a' := ?_) #[true, true, true, false, true, true, true, true, false, false, false, false] rfl rfl (any_of HT_.out (by kernel_rfl)) (fun _ _ _ h => h) (Or.inl ⟨by rfl, ?_⟩) ?_ ?_; (rotate_left; · intro w'; go_simp; with_reducible rfl); (rotate_left; · simp only [Act.put, List.setIfInBounds_toArray, List.set_cons_zero, List.set_cons_succ, i64_w, i32_w]; rfl)
              refine take_ (i := 3) (N := some 117) (v := ?_) (a' := ?_) #[true, true, true, true, true, true, true, true, false, false, false, false] rfl rfl (take_ofW HT_.out HW_.out (by kernel_rfl)) (fun _ _ _ h => h) (Or.inl ⟨by rfl, ?_⟩) hHeld ?_ ?_; (rotate_left; · rintro w' ⟨s0, s1⟩; go_simp; with_reducible rfl); (rotate_left; · simp only [Act.put, List.setIfInBounds_toArray, List.set_cons_zero, List.set_cons_succ, i64_w, i32_w]; rfl)
              refine take_ (i := 8) (N := some 122) (v := ?_) (a' := ?_) #[true, true, true, true, true, true, true, true, true, false, false, false] rfl rfl (take_ofW HT_.out HW_.out (by kernel_rfl)) (fun _ _ _ h => h) (Or.inl ⟨by rfl, ?_⟩) hHeld ?_ ?_; (rotate_left; · rintro w' ⟨s0, s1⟩; go_simp; with_reducible rfl); (rotate_left; · simp only [Act.put, List.setIfInBounds_toArray, List.set_cons_zero, List.set_cons_succ, i64_w, i32_w]; rfl)
              refine pure_ (i := 9) (N := some 123) (v := ?_) (a' := ?_) #[true, true, true, true, true, true, true, true, true, true, false, false] rfl rfl (any_of HT_.out (by kernel_rfl)) (fun _ _ _ h => h) (Or.inl ⟨by rfl, ?_⟩) ?_ ?_; (rotate_left; · intro w'; go_simp; with_reducible rfl); (rotate_left; · simp only [Act.put, List.setIfInBounds_toArray, List.set_cons_zero, List.set_cons_succ, i64_w, i32_w]; rfl)
              refine pure_ (i := 10) (N := some 124) (v := ?_) (a' := ?_) #[true, true, true, true, true, true, true, true, true, true, true, false] rfl rfl (any_of HT_.out (by kernel_rfl)) (fun _ _ _ h => h) (Or.inl ⟨by rfl, ?_⟩) ?_ ?_; (rotate_left; · intro w'; go_simp; with_reducible rfl); (rotate_left; · simp only [Act.put, List.setIfInBounds_toArray, List.set_cons_zero, List.set_cons_succ, i64_w, i32_w]; rfl)
              refine last_ (i := 11) (N := none) #[true, true, true, true, true, true, true, true, true, true, true, true] rfl rfl (one_of HT_.out (by kernel_rfl)) (by decide) (fun K hK => ?_)
              refine skip_ (w1 := wd_.setCell ⟨gl, i, none⟩ (.int .i64 (wrap64 (rd lf (i : Int) - rt.f1)))) (by rfl) rfl (by first | (go_simp; done) | (go_simp; rfl)) ?_
              refine hK.out _ _ ?_; clear hK K; refine done_ (done_of HT_.out (by kernel_rfl)) ?_
              clear HT_ HW_ hHeld XX0 XX1 FL HL
              have HL := Aside0.mk HPUT
              clear HPUT
              rw [show ((i : Int)).toNat = i from rfl] at HL
              generalize wd_.setCell ⟨gl, i, none⟩ (.int .i64 (wrap64 (rd lf (i : Int) - rt.f1))) = w9 at HL ⊢
              go_wp2
              go_roundg g3
              case measure => omega
              case rel => exact ⟨m + 1, _, by go_num, ⟨by have := HM.out; omega⟩, HSub, ⟨by rw [List.length_set]; exact HLL.out⟩, HL⟩
            ·cases h1
      ·cases h5
     ·cases h4
    ·rename_i hne
     split at h4
     ·rename_i hrs
      subst hrs
      obtain rfl := Option.some.inj h4
      have d1 : (e != 0) = true := bne_iff_ne.2 hne
      clear h4 hne
      go_wp2_with (first
       | ((with_reducible refine gate_dst (N := 1) rfl ?_); refine ev_new HL #[.int .i64 a0_0, .slice A0_1 l0_1.length c0_1, .int .i64 a0_2, .int .i64 a0_3, .int .i64 a0_4, .slice A0_5 l0_5.length c0_5, .slice A0_6 l0_6.length c0_6, .slice A0_7 l0_7.length c0_7, .slice A0_8 l0_8.length c0_8] 41 rfl 1 rfl ?hr ?_; (case hr => first | (go_simp; done) | (go_simp; rfl)); intro g1 w1 G1 HL1; clear HL; have HL := HL1; clear HL1; have b0 : w1.cell? ⟨g1, 0, none⟩ = some (.int .i64 a0_0) := (HL.out.box_cell (i := 0) rfl 0).trans rfl; have b1 : w1.cell? ⟨g1, 1, none⟩ = some (.slice A0_1 l0_1.length c0_1) := (HL.out.box_cell (i := 0) rfl 1).trans rfl; have b2 : w1.cell? ⟨g1, 2, none⟩ = some (.int .i64 a0_2) := (HL.out.box_cell (i := 0) rfl 2).trans rfl; have b3 : w1.cell? ⟨g1, 3, none⟩ = some (.int .i64 a0_3) := (HL.out.box_cell (i := 0) rfl 3).trans rfl; have b4 : w1.cell? ⟨g1, 4, none⟩ = some (.int .i64 a0_4) := (HL.out.box_cell (i := 0) rfl 4).trans rfl; have b5 : w1.cell? ⟨g1, 5, none⟩ = some (.slice A0_5 l0_5.length c0_5) := (HL.out.box_cell (i := 0) rfl 5).trans rfl; have b6 : w1.cell? ⟨g1, 6, none⟩ = some (.slice A0_6 l0_6.length c0_6) := (HL.out.box_cell (i := 0) rfl 6).trans rfl)
       | ((with_reducible refine gate_callee (f := 26) rfl ?_); refine goesL_ (some 16) rfl rfl Try.func26 (by kernel_rfl) rfl #[.agg #[.int .i64 a0_0, .slice A0_1 l0_1.length c0_1]] rfl (by (try simp only [List.map_toArray, List.map_cons, List.map_nil]); first | done | rfl) ?_; refine (codewrightlaw51_few.calls k a0_0 A0_1 c0_1 l0_1 true _ (Kd.C_below HR0.out HL.out.hb) hc0_1 HFew.out).mono ?_; rintro e w2 ⟨rfl, hb⟩; refine ⟨_, rfl, ?_⟩; have HL1 := Aside0.mk (HL.out.same hb); clear HL hb b0 b1 b2 b3 b4 b5 b6; have HL := HL1; clear HL1; have b0 : w2.cell? ⟨g1, 0, none⟩ = some (.int .i64 a0_0) := (HL.out.box_cell (i := 0) rfl 0).trans rfl; have b1 : w2.cell? ⟨g1, 1, none⟩ = some (.slice A0_1 l0_1.length c0_1) := (HL.out.box_cell (i := 0) rfl 1).trans rfl; have b2 : w2.cell? ⟨g1, 2, none⟩ = some (.int .i64 a0_2) := (HL.out.box_cell (i := 0) rfl 2).trans rfl; have b3 : w2.cell? ⟨g1, 3, none⟩ = some (.int .i64 a0_3) := (HL.out.box_cell (i := 0) rfl 3).trans rfl; have b4 : w2.cell? ⟨g1, 4, none⟩ = some (.int .i64 a0_4) := (HL.out.box_cell (i := 0) rfl 4).trans rfl; have b5 : w2.cell? ⟨g1, 5, none⟩ = some (.slice A0_5 l0_5.length c0_5) := (HL.out.box_cell (i := 0) rfl 5).trans rfl; have b6 : w2.cell? ⟨g1, 6, none⟩ = some (.slice A0_6 l0_6.length c0_6) := (HL.out.box_cell (i := 0) rfl 6).trans rfl)
       | ((with_reducible refine gate_callee (f := 30) rfl ?_); refine goesL_ (some 28) rfl rfl Try.func30 (by kernel_rfl) rfl #[.agg #[.int .i64 a0_0, .slice A0_1 l0_1.length c0_1], .int .i64 a0_2, .int .i64 a0_3, .agg #[.int .i64 a0_4, .slice A0_5 l0_5.length c0_5, .slice A0_6 l0_6.length c0_6]] rfl (by (try simp only [List.map_toArray, List.map_cons, List.map_nil]); first | done | rfl) ?_; refine (flow_Routes.calls k a0_0 A0_1 c0_1 l0_1 a0_2 a0_3 a0_4 A0_5 c0_5 l0_5 A0_6 c0_6 l0_6 [] e _ (Kd.C_below HR0.out HL.out.hb) hc0_1 (Kd.C_below HR5.out HL.out.hb) hc0_5 (Kd.C_below HR6.out HL.out.hb) hc0_6 HRt.out).mono ?_; rintro e w3 ⟨v3, rfl, ho, hb⟩; refine ⟨_, rfl, ?_⟩; (obtain ⟨A3, c3, e_⟩ := Kd.R_slice ho); subst e_; have HL1 := Aside0.mk (HL.out.add_row ho hb); clear HL ho hb b0 b1 b2 b3 b4 b5 b6; have HL := HL1; clear HL1; have b0 : w3.cell? ⟨g1, 0, none⟩ = some (.int .i64 a0_0) := (HL.out.box_cell (i := 0) rfl 0).trans rfl; have b1 : w3.cell? ⟨g1, 1, none⟩ = some (.slice A0_1 l0_1.length c0_1) := (HL.out.box_cell (i := 0) rfl 1).trans rfl; have b2 : w3.cell? ⟨g1, 2, none⟩ = some (.int .i64 a0_2) := (HL.out.box_cell (i := 0) rfl 2).trans rfl; have b3 : w3.cell? ⟨g1, 3, none⟩ = some (.int .i64 a0_3) := (HL.out.box_cell (i := 0) rfl 3).trans rfl; have b4 : w3.cell? ⟨g1, 4, none⟩ = some (.int .i64 a0_4) := (HL.out.box_cell (i := 0) rfl 4).trans rfl; have b5 : w3.cell? ⟨g1, 5, none⟩ = some (.slice A0_5 l0_5.length c0_5) := (HL.out.box_cell (i := 0) rfl 5).trans rfl; have b6 : w3.cell? ⟨g1, 6, none⟩ = some (.slice A0_6 l0_6.length c0_6) := (HL.out.box_cell (i := 0) rfl 6).trans rfl)
       | ((with_reducible refine gate_callee (f := 25) rfl ?_); refine goesL_ (some 39) rfl rfl Try.func25 (by kernel_rfl) rfl #[.agg #[.int .i64 a0_0, .slice A0_1 l0_1.length c0_1], .int .i64 a0_2, .int .i64 a0_3, .agg #[.int .i64 a0_4, .slice A0_5 l0_5.length c0_5, .slice A0_6 l0_6.length c0_6]] rfl (by (try simp only [List.map_toArray, List.map_cons, List.map_nil]); first | done | rfl) ?_; refine (codewrightref51_Accept.calls k a0_0 A0_1 c0_1 l0_1 a0_2 a0_3 a0_4 A0_5 c0_5 l0_5 A0_6 c0_6 l0_6 e _ (Kd.C_below HR0.out HL.out.hb) hc0_1 (Kd.C_below HR5.out HL.out.hb) hc0_5 (Kd.C_below HR6.out HL.out.hb) hc0_6 HAc.out).mono ?_; rintro e w4 ⟨rfl, hb⟩; refine ⟨_, rfl, ?_⟩; have HL1 := Aside0.mk (HL.out.same hb); clear HL hb b0 b1 b2 b3 b4 b5 b6; have HL := HL1; clear HL1; have b0 : w4.cell? ⟨g1, 0, none⟩ = some (.int .i64 a0_0) := (HL.out.box_cell (i := 0) rfl 0).trans rfl; have b1 : w4.cell? ⟨g1, 1, none⟩ = some (.slice A0_1 l0_1.length c0_1) := (HL.out.box_cell (i := 0) rfl 1).trans rfl; have b2 : w4.cell? ⟨g1, 2, none⟩ = some (.int .i64 a0_2) := (HL.out.box_cell (i := 0) rfl 2).trans rfl; have b3 : w4.cell? ⟨g1, 3, none⟩ = some (.int .i64 a0_3) := (HL.out.box_cell (i := 0) rfl 3).trans rfl; have b4 : w4.cell? ⟨g1, 4, none⟩ = some (.int .i64 a0_4) := (HL.out.box_cell (i := 0) rfl 4).trans rfl; have b5 : w4.cell? ⟨g1, 5, none⟩ = some (.slice A0_5 l0_5.length c0_5) := (HL.out.box_cell (i := 0) rfl 5).trans rfl; have b6 : w4.cell? ⟨g1, 6, none⟩ = some (.slice A0_6 l0_6.length c0_6) := (HL.out.box_cell (i := 0) rfl 6).trans rfl)
       | ((with_reducible refine gate_callee (f := 18) rfl ?_); refine gate_guard (by rfl) ?_; dsimp only; refine goesL_ (some 44) rfl rfl Try.func18 (by kernel_rfl) rfl #[] rfl (by (try simp only [List.map_toArray, List.map_cons, List.map_nil]); first | done | rfl) ?_; refine (codewrightlaw51_alive.calls k true _ HAl.out).mono ?_; rintro e w5 ⟨rfl, hb⟩; refine ⟨_, rfl, ?_⟩; have HL1 := Aside0.mk (HL.out.same hb); clear HL hb b0 b1 b2 b3 b4 b5 b6; have HL := HL1; clear HL1; have b0 : w5.cell? ⟨g1, 0, none⟩ = some (.int .i64 a0_0) := (HL.out.box_cell (i := 0) rfl 0).trans rfl; have b1 : w5.cell? ⟨g1, 1, none⟩ = some (.slice A0_1 l0_1.length c0_1) := (HL.out.box_cell (i := 0) rfl 1).trans rfl; have b2 : w5.cell? ⟨g1, 2, none⟩ = some (.int .i64 a0_2) := (HL.out.box_cell (i := 0) rfl 2).trans rfl; have b3 : w5.cell? ⟨g1, 3, none⟩ = some (.int .i64 a0_3) := (HL.out.box_cell (i := 0) rfl 3).trans rfl; have b4 : w5.cell? ⟨g1, 4, none⟩ = some (.int .i64 a0_4) := (HL.out.box_cell (i := 0) rfl 4).trans rfl; have b5 : w5.cell? ⟨g1, 5, none⟩ = some (.slice A0_5 l0_5.length c0_5) := (HL.out.box_cell (i := 0) rfl 5).trans rfl; have b6 : w5.cell? ⟨g1, 6, none⟩ = some (.slice A0_6 l0_6.length c0_6) := (HL.out.box_cell (i := 0) rfl 6).trans rfl)
       )
      go_ret
      exact ⟨rfl, HL.out.hb⟩
     ·cases h4
   ·cases h4
  ·cases h3
end Go.Proofs.Ytidomjhihfoabaa.PF
-- thin
