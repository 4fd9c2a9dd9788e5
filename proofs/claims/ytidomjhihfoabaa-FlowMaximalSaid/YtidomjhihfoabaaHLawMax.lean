/- The law FlowMaximal: what its call does where it returns true (elsewhere nothing is said). -/
import Derived.Test.YtidomjhihfoabaaHRefMax
import Derived.Test.YtidomjhihfoabaaPFx27
import Derived.Test.YtidomjhihfoabaaPFx26
import Derived.Test.YtidomjhihfoabaaPFx25
import Derived.Test.YtidomjhihfoabaaPFx21
import Derived.Test.YtidomjhihfoabaaPFx18
namespace Go.Proofs.Ytidomjhihfoabaa.PF
open Go Go.RowKit Go.Lib Go.Proofs.YtidomjhihfoabaaW.PrintWords Go.Proofs.YtidomjhihfoabaaW.PrintLast Go.Proofs.Ytidomjhihfoabaa.Lv
set_option linter.unusedVariables false
set_option linter.unusedSimpArgs false

def codewrightlaw51_FlowMaximal.f (k : Nat) (n : Int) (l : List S36) (s t : Int) : Option Bool :=
  (codewrightlaw51_few.f k n l).bind fun b => if b = true then
    (flow_Max.f k n l s t).bind fun q => (codewrightref51_Ends.f k n l s t).bind fun x => if q.2.2.2 = x then
      (if x = 0 then (codewrightref51_Accept.f k n l s t q.1 q.2.1 q.2.2.1).bind fun y => if y = 0 then
        ((codewrightref51_Max.f k n l s t).bind fun p => if 0 ≤ n ∧ q.2.2.1 = p.2.2 ∧ n = (q.2.2.1.length : Int) ∧ q.1 = p.1 then some true else none) else none
      else (if q.1 = 0 ∧ q.2.1 = [] ∧ q.2.2.1 = [] then codewrightlaw51_alive.f k else none)) else none
  else codewrightlaw51_alive.f k

set_option maxHeartbeats 8000000 in
set_option maxRecDepth 100000 in
theorem codewrightlaw51_FlowMaximal.calls (k : Nat) (a0_0 : Int) (A0_1 : Option Addr) (c0_1 : Nat) (l0_1 : List S36) (a0_2 : Int) (a0_3 : Int) (r : Bool) (w : World) (hr0_1 : Kd.C k36 w A0_1 l0_1.length l0_1) (hc0_1 : l0_1.length ≤ c0_1) (h : codewrightlaw51_FlowMaximal.f k a0_0 l0_1 a0_2 a0_3 = some r) :
    Calls Try.prog 9 #[.agg #[.int .i64 a0_0, .slice A0_1 l0_1.length c0_1, .int .i64 a0_2, .int .i64 a0_3]] w fun e w' => e = .returned (.bool r) ∧ Below w.heap.size w w' := by
  have hu48 := Try.underlying48
  have hu24 := Try.underlying24
  have hu39 := Try.underlying39
  have HR0 := Aside0.mk hr0_1
  clear hr0_1
  unfold codewrightlaw51_FlowMaximal.f at h
  obtain ⟨b, hb0, h1⟩ := Option.bind_eq_some_iff.1 h
  clear h
  have HFew := Aside0.mk hb0
  clear hb0
  have HL := Aside0.mk (Live.nil w)
  go_enter Try.func9, Try.ntmps9
  cases b with
  | false =>
    rw [if_neg (by decide)] at h1
    have HAl := Aside0.mk h1
    clear h1
    go_wp2_with (first
      | ((with_reducible refine gate_dst (N := 1) rfl ?_); refine ev_new HL #[.int .i64 (a0_0), .slice A0_1 l0_1.length c0_1, .int .i64 a0_2, .int .i64 a0_3] 48 rfl 1 rfl ?hr ?_; (case hr => first | (go_simp; done) | (go_simp; rfl)); intro g1 w1 G1 HL1; clear HL; have HL := HL1; clear HL1; have b0 : w1.cell? ⟨g1, 0, none⟩ = some (.int .i64 (a0_0)) := (HL.out.box_cell (i := 0) rfl 0).trans rfl; have b1 : w1.cell? ⟨g1, 1, none⟩ = some (.slice A0_1 l0_1.length c0_1) := (HL.out.box_cell (i := 0) rfl 1).trans rfl; have b2 : w1.cell? ⟨g1, 2, none⟩ = some (.int .i64 a0_2) := (HL.out.box_cell (i := 0) rfl 2).trans rfl; have b3 : w1.cell? ⟨g1, 3, none⟩ = some (.int .i64 a0_3) := (HL.out.box_cell (i := 0) rfl 3).trans rfl)
      | ((with_reducible refine gate_callee (f := 26) rfl ?_); refine goesL_ (some 10) rfl rfl Try.func26 (by kernel_rfl) rfl #[.agg #[.int .i64 (a0_0), .slice A0_1 l0_1.length c0_1]] rfl (by (try simp only [List.map_toArray, List.map_cons, List.map_nil]); first | done | rfl) ?_; refine (codewrightlaw51_few.calls k (a0_0) A0_1 c0_1 l0_1 false _ (Kd.C_below HR0.out HL.out.hb) hc0_1 HFew.out).mono ?_; rintro e w2 ⟨rfl, hb⟩; refine ⟨_, rfl, ?_⟩; have HL1 := Aside0.mk (HL.out.same hb); clear HL hb; clear b0 b1 b2 b3; have HL := HL1; clear HL1; have b0 : w2.cell? ⟨g1, 0, none⟩ = some (.int .i64 (a0_0)) := (HL.out.box_cell (i := 0) rfl 0).trans rfl; have b1 : w2.cell? ⟨g1, 1, none⟩ = some (.slice A0_1 l0_1.length c0_1) := (HL.out.box_cell (i := 0) rfl 1).trans rfl; have b2 : w2.cell? ⟨g1, 2, none⟩ = some (.int .i64 a0_2) := (HL.out.box_cell (i := 0) rfl 2).trans rfl; have b3 : w2.cell? ⟨g1, 3, none⟩ = some (.int .i64 a0_3) := (HL.out.box_cell (i := 0) rfl 3).trans rfl)
      | ((with_reducible refine gate_callee (f := 18) rfl ?_); refine goesL_ (some 12) rfl rfl Try.func18 (by kernel_rfl) rfl #[] rfl (by (try simp only [List.map_toArray, List.map_cons, List.map_nil]); first | done | rfl) ?_; refine (codewrightlaw51_alive.calls k r _ HAl.out).mono ?_; rintro e w9 ⟨rfl, hb⟩; refine ⟨_, rfl, ?_⟩; have HL1 := Aside0.mk (HL.out.same hb); clear HL hb; have HL := HL1; clear HL1)
      )
    go_ret
    exact ⟨rfl, HL.out.hb⟩
  | true =>
    rw [if_pos rfl] at h1
    obtain ⟨⟨q1, q2, q3, q4⟩, hq, h2⟩ := Option.bind_eq_some_iff.1 h1
    obtain ⟨x, hx, h3⟩ := Option.bind_eq_some_iff.1 h2
    have HMax := Aside0.mk hq
    have HEnds := Aside0.mk hx
    clear h1 h2 hq hx
    simp only at h3
    split at h3
    · rename_i he
      subst he
      split at h3
      · rename_i hx0
        subst hx0
        obtain ⟨y, hy, h4⟩ := Option.bind_eq_some_iff.1 h3
        have HAcc := Aside0.mk hy
        clear h3 hy
        split at h4
        · rename_i hy0
          subst hy0
          obtain ⟨⟨p1, p2, p3⟩, hp, h5⟩ := Option.bind_eq_some_iff.1 h4
          have HRef := Aside0.mk hp
          clear h4 hp
          simp only at h5
          split at h5
          · rename_i hg
            obtain ⟨hn0, e3, hn3, e1⟩ := hg
            obtain rfl := Option.some.inj h5
            clear h5
            subst e3 e1
            obtain ⟨n, rfl⟩ : ∃ n : Nat, a0_0 = (n : Int) := ⟨a0_0.toNat, by omega⟩
            obtain rfl : n = q3.length := by omega
            clear hn0 hn3
            go_wp2_with (first
              | ((with_reducible refine gate_dst (N := 1) rfl ?_); refine ev_new HL #[.int .i64 ((q3.length : Int)), .slice A0_1 l0_1.length c0_1, .int .i64 a0_2, .int .i64 a0_3] 48 rfl 1 rfl ?hr ?_; (case hr => first | (go_simp; done) | (go_simp; rfl)); intro g1 w1 G1 HL1; clear HL; have HL := HL1; clear HL1; have b0 : w1.cell? ⟨g1, 0, none⟩ = some (.int .i64 ((q3.length : Int))) := (HL.out.box_cell (i := 0) rfl 0).trans rfl; have b1 : w1.cell? ⟨g1, 1, none⟩ = some (.slice A0_1 l0_1.length c0_1) := (HL.out.box_cell (i := 0) rfl 1).trans rfl; have b2 : w1.cell? ⟨g1, 2, none⟩ = some (.int .i64 a0_2) := (HL.out.box_cell (i := 0) rfl 2).trans rfl; have b3 : w1.cell? ⟨g1, 3, none⟩ = some (.int .i64 a0_3) := (HL.out.box_cell (i := 0) rfl 3).trans rfl)
              | ((with_reducible refine gate_callee (f := 26) rfl ?_); refine goesL_ (some 10) rfl rfl Try.func26 (by kernel_rfl) rfl #[.agg #[.int .i64 ((q3.length : Int)), .slice A0_1 l0_1.length c0_1]] rfl (by (try simp only [List.map_toArray, List.map_cons, List.map_nil]); first | done | rfl) ?_; refine (codewrightlaw51_few.calls k ((q3.length : Int)) A0_1 c0_1 l0_1 true _ (Kd.C_below HR0.out HL.out.hb) hc0_1 HFew.out).mono ?_; rintro e w2 ⟨rfl, hb⟩; refine ⟨_, rfl, ?_⟩; have HL1 := Aside0.mk (HL.out.same hb); clear HL hb; clear b0 b1 b2 b3; have HL := HL1; clear HL1; have b0 : w2.cell? ⟨g1, 0, none⟩ = some (.int .i64 ((q3.length : Int))) := (HL.out.box_cell (i := 0) rfl 0).trans rfl; have b1 : w2.cell? ⟨g1, 1, none⟩ = some (.slice A0_1 l0_1.length c0_1) := (HL.out.box_cell (i := 0) rfl 1).trans rfl; have b2 : w2.cell? ⟨g1, 2, none⟩ = some (.int .i64 a0_2) := (HL.out.box_cell (i := 0) rfl 2).trans rfl; have b3 : w2.cell? ⟨g1, 3, none⟩ = some (.int .i64 a0_3) := (HL.out.box_cell (i := 0) rfl 3).trans rfl)
              | ((with_reducible refine gate_callee (f := 27) rfl ?_); refine goesL_ (some 20) rfl rfl Try.func27 (by kernel_rfl) rfl #[.agg #[.int .i64 ((q3.length : Int)), .slice A0_1 l0_1.length c0_1], .int .i64 a0_2, .int .i64 a0_3] rfl (by (try simp only [List.map_toArray, List.map_cons, List.map_nil]); first | done | rfl) ?_; refine (flow_Max.calls k ((q3.length : Int)) A0_1 c0_1 l0_1 a0_2 a0_3 q1 q2 q3 0 _ (Kd.C_below HR0.out HL.out.hb) hc0_1 HMax.out).mono ?_; rintro e w3 ⟨v1, v2, rfl, ho1, ho2, hb⟩; refine ⟨_, rfl, ?_⟩; (obtain ⟨A1, c1, e1⟩ := Kd.R_slice ho1); subst e1; (obtain ⟨A2, c2, e2⟩ := Kd.R_slice ho2); subst e2; have HL1 := Aside0.mk (HL.out.add2 ho1 ho2 (by decide) hb); clear HL hb ho1 ho2; clear b0 b1 b2 b3; have HL := HL1; clear HL1; have b0 : w3.cell? ⟨g1, 0, none⟩ = some (.int .i64 ((q3.length : Int))) := (HL.out.box_cell (i := 0) rfl 0).trans rfl; have b1 : w3.cell? ⟨g1, 1, none⟩ = some (.slice A0_1 l0_1.length c0_1) := (HL.out.box_cell (i := 0) rfl 1).trans rfl; have b2 : w3.cell? ⟨g1, 2, none⟩ = some (.int .i64 a0_2) := (HL.out.box_cell (i := 0) rfl 2).trans rfl; have b3 : w3.cell? ⟨g1, 3, none⟩ = some (.int .i64 a0_3) := (HL.out.box_cell (i := 0) rfl 3).trans rfl)
              | ((with_reducible refine gate_dst (N := 3) rfl ?_); refine ev_new HL #[.int .i64 0, .slice none 0 0, .slice none 0 0] 39 rfl 3 rfl ?hr ?_; (case hr => first | (go_simp; done) | (go_simp; rfl)); intro g3 w4 G3 HL1; clear HL; clear b0 b1 b2 b3; have HL := HL1; clear HL1; have fb := HL.out.box_fz (i := 3) rfl; have bb := HL.out.box_cell (i := 3) rfl; have b0 : w4.cell? ⟨g1, 0, none⟩ = some (.int .i64 ((q3.length : Int))) := (HL.out.box_cell (i := 0) rfl 0).trans rfl; have b1 : w4.cell? ⟨g1, 1, none⟩ = some (.slice A0_1 l0_1.length c0_1) := (HL.out.box_cell (i := 0) rfl 1).trans rfl; have b2 : w4.cell? ⟨g1, 2, none⟩ = some (.int .i64 a0_2) := (HL.out.box_cell (i := 0) rfl 2).trans rfl; have b3 : w4.cell? ⟨g1, 3, none⟩ = some (.int .i64 a0_3) := (HL.out.box_cell (i := 0) rfl 3).trans rfl)
              | ((with_reducible refine gate_store (t := 39) (p := 3) rfl ?_); refine ev_set HL (fun h => ((h.setbox (i := 3) rfl G3 0 (.int .i64 q1)).setbox (i := 3) rfl G3 1 (.slice A1 q2.length c1)).setbox (i := 3) rfl G3 2 (.slice A2 q3.length c2)) 39 3 rfl rfl rfl ?hr ?_; (case hr => first | (go_simp; done) | (go_simp; rfl)); intro w5 HL1; clear HL fb bb; clear b0 b1 b2 b3; have HL := HL1; clear HL1; have b0 : w5.cell? ⟨g1, 0, none⟩ = some (.int .i64 ((q3.length : Int))) := (HL.out.box_cell (i := 0) rfl 0).trans rfl; have b1 : w5.cell? ⟨g1, 1, none⟩ = some (.slice A0_1 l0_1.length c0_1) := (HL.out.box_cell (i := 0) rfl 1).trans rfl; have b2 : w5.cell? ⟨g1, 2, none⟩ = some (.int .i64 a0_2) := (HL.out.box_cell (i := 0) rfl 2).trans rfl; have b3 : w5.cell? ⟨g1, 3, none⟩ = some (.int .i64 a0_3) := (HL.out.box_cell (i := 0) rfl 3).trans rfl; have x0 : w5.cell? ⟨g3, 0, none⟩ = some (.int .i64 q1) := (HL.out.box_cell (i := 3) rfl 0).trans rfl; have x1 : w5.cell? ⟨g3, 1, none⟩ = some (.slice A1 q2.length c1) := (HL.out.box_cell (i := 3) rfl 1).trans rfl; have x2 : w5.cell? ⟨g3, 2, none⟩ = some (.slice A2 q3.length c2) := (HL.out.box_cell (i := 3) rfl 2).trans rfl)
              | ((with_reducible refine gate_callee (f := 21) rfl ?_); refine goesL_ (some 29) rfl rfl Try.func21 (by kernel_rfl) rfl #[.agg #[.int .i64 ((q3.length : Int)), .slice A0_1 l0_1.length c0_1], .int .i64 a0_2, .int .i64 a0_3] rfl (by (try simp only [List.map_toArray, List.map_cons, List.map_nil]); first | done | rfl) ?_; refine (codewrightref51_Ends.calls k ((q3.length : Int)) A0_1 c0_1 l0_1 a0_2 a0_3 0 _ (Kd.C_below HR0.out HL.out.hb) hc0_1 HEnds.out).mono ?_; rintro e w6 ⟨rfl, hb⟩; refine ⟨_, rfl, ?_⟩; have HL1 := Aside0.mk (HL.out.same hb); clear HL hb x0 x1 x2; clear b0 b1 b2 b3; have HL := HL1; clear HL1; have b0 : w6.cell? ⟨g1, 0, none⟩ = some (.int .i64 ((q3.length : Int))) := (HL.out.box_cell (i := 0) rfl 0).trans rfl; have b1 : w6.cell? ⟨g1, 1, none⟩ = some (.slice A0_1 l0_1.length c0_1) := (HL.out.box_cell (i := 0) rfl 1).trans rfl; have b2 : w6.cell? ⟨g1, 2, none⟩ = some (.int .i64 a0_2) := (HL.out.box_cell (i := 0) rfl 2).trans rfl; have b3 : w6.cell? ⟨g1, 3, none⟩ = some (.int .i64 a0_3) := (HL.out.box_cell (i := 0) rfl 3).trans rfl; have x0 : w6.cell? ⟨g3, 0, none⟩ = some (.int .i64 q1) := (HL.out.box_cell (i := 3) rfl 0).trans rfl; have x1 : w6.cell? ⟨g3, 1, none⟩ = some (.slice A1 q2.length c1) := (HL.out.box_cell (i := 3) rfl 1).trans rfl; have x2 : w6.cell? ⟨g3, 2, none⟩ = some (.slice A2 q3.length c2) := (HL.out.box_cell (i := 3) rfl 2).trans rfl)
              | ((with_reducible refine gate_callee (f := 25) rfl ?_); refine goesL_ (some 60) rfl rfl Try.func25 (by kernel_rfl) rfl #[.agg #[.int .i64 ((q3.length : Int)), .slice A0_1 l0_1.length c0_1], .int .i64 a0_2, .int .i64 a0_3, .agg #[.int .i64 q1, .slice A1 q2.length c1, .slice A2 q3.length c2]] rfl (by (try simp only [List.map_toArray, List.map_cons, List.map_nil]); first | done | rfl) ?_; refine (codewrightref51_Accept.calls k ((q3.length : Int)) A0_1 c0_1 l0_1 a0_2 a0_3 q1 A1 c1 q2 A2 c2 q3 0 _ (Kd.C_below HR0.out HL.out.hb) hc0_1 (Kd.R_reads' (HL.out.row (i := 1) rfl)).2.2 (Kd.R_reads' (HL.out.row (i := 1) rfl)).2.1 (Kd.R_reads' (HL.out.row (i := 2) rfl)).2.2 (Kd.R_reads' (HL.out.row (i := 2) rfl)).2.1 HAcc.out).mono ?_; rintro e w7 ⟨rfl, hb⟩; refine ⟨_, rfl, ?_⟩; have HL1 := Aside0.mk (HL.out.same hb); clear HL hb x0 x1 x2; clear b0 b1 b2 b3; have HL := HL1; clear HL1; have b0 : w7.cell? ⟨g1, 0, none⟩ = some (.int .i64 ((q3.length : Int))) := (HL.out.box_cell (i := 0) rfl 0).trans rfl; have b1 : w7.cell? ⟨g1, 1, none⟩ = some (.slice A0_1 l0_1.length c0_1) := (HL.out.box_cell (i := 0) rfl 1).trans rfl; have b2 : w7.cell? ⟨g1, 2, none⟩ = some (.int .i64 a0_2) := (HL.out.box_cell (i := 0) rfl 2).trans rfl; have b3 : w7.cell? ⟨g1, 3, none⟩ = some (.int .i64 a0_3) := (HL.out.box_cell (i := 0) rfl 3).trans rfl; have x0 : w7.cell? ⟨g3, 0, none⟩ = some (.int .i64 q1) := (HL.out.box_cell (i := 3) rfl 0).trans rfl; have x1 : w7.cell? ⟨g3, 1, none⟩ = some (.slice A1 q2.length c1) := (HL.out.box_cell (i := 3) rfl 1).trans rfl; have x2 : w7.cell? ⟨g3, 2, none⟩ = some (.slice A2 q3.length c2) := (HL.out.box_cell (i := 3) rfl 2).trans rfl)
              | ((with_reducible refine gate_callee (f := 28) rfl ?_); refine goesL_ (some 68) rfl rfl Try.func28 (by kernel_rfl) rfl #[.agg #[.int .i64 ((q3.length : Int)), .slice A0_1 l0_1.length c0_1], .int .i64 a0_2, .int .i64 a0_3] rfl (by (try simp only [List.map_toArray, List.map_cons, List.map_nil]); first | done | rfl) ?_; refine (codewrightref51_Max.calls k ((q3.length : Int)) A0_1 c0_1 l0_1 a0_2 a0_3 q1 p2 q3 _ (Kd.C_below HR0.out HL.out.hb) hc0_1 HRef.out).mono ?_; rintro e w8 ⟨v4, v5, rfl, ho1, ho2, hb⟩; refine ⟨_, rfl, ?_⟩; (obtain ⟨A4, c4, e1⟩ := Kd.R_slice ho1); subst e1; (obtain ⟨A5, c5, e2⟩ := Kd.R_slice ho2); subst e2; have HL1 := Aside0.mk (HL.out.add2 ho1 ho2 (by decide) hb); clear HL hb ho1 ho2 x0 x1 x2; clear b0 b1 b2 b3; have HL := HL1; clear HL1; have b0 : w8.cell? ⟨g1, 0, none⟩ = some (.int .i64 ((q3.length : Int))) := (HL.out.box_cell (i := 0) rfl 0).trans rfl; have b1 : w8.cell? ⟨g1, 1, none⟩ = some (.slice A0_1 l0_1.length c0_1) := (HL.out.box_cell (i := 0) rfl 1).trans rfl; have b2 : w8.cell? ⟨g1, 2, none⟩ = some (.int .i64 a0_2) := (HL.out.box_cell (i := 0) rfl 2).trans rfl; have b3 : w8.cell? ⟨g1, 3, none⟩ = some (.int .i64 a0_3) := (HL.out.box_cell (i := 0) rfl 3).trans rfl)
              | ((with_reducible refine gate_dst (N := 6) rfl ?_); refine ev_new HL #[.int .i64 0, .slice none 0 0, .slice none 0 0] 39 rfl 6 rfl ?hr ?_; (case hr => first | (go_simp; done) | (go_simp; rfl)); intro g6 w10 G6 HL1; clear HL; clear b0 b1 b2 b3; have HL := HL1; clear HL1; have fb := HL.out.box_fz (i := 6) rfl; have bb := HL.out.box_cell (i := 6) rfl; have b0 : w10.cell? ⟨g1, 0, none⟩ = some (.int .i64 ((q3.length : Int))) := (HL.out.box_cell (i := 0) rfl 0).trans rfl; have b1 : w10.cell? ⟨g1, 1, none⟩ = some (.slice A0_1 l0_1.length c0_1) := (HL.out.box_cell (i := 0) rfl 1).trans rfl; have b2 : w10.cell? ⟨g1, 2, none⟩ = some (.int .i64 a0_2) := (HL.out.box_cell (i := 0) rfl 2).trans rfl; have b3 : w10.cell? ⟨g1, 3, none⟩ = some (.int .i64 a0_3) := (HL.out.box_cell (i := 0) rfl 3).trans rfl)
              | ((with_reducible refine gate_store (t := 39) (p := 6) rfl ?_); refine ev_set HL (fun h => ((h.setbox (i := 6) rfl G6 0 (.int .i64 q1)).setbox (i := 6) rfl G6 1 (.slice A4 p2.length c4)).setbox (i := 6) rfl G6 2 (.slice A5 q3.length c5)) 39 6 rfl rfl rfl ?hr ?_; (case hr => first | (go_simp; done) | (go_simp; rfl)); intro w11 HL1; clear HL fb bb; clear b0 b1 b2 b3; have HL := HL1; clear HL1; have b0 : w11.cell? ⟨g1, 0, none⟩ = some (.int .i64 ((q3.length : Int))) := (HL.out.box_cell (i := 0) rfl 0).trans rfl; have b1 : w11.cell? ⟨g1, 1, none⟩ = some (.slice A0_1 l0_1.length c0_1) := (HL.out.box_cell (i := 0) rfl 1).trans rfl; have b2 : w11.cell? ⟨g1, 2, none⟩ = some (.int .i64 a0_2) := (HL.out.box_cell (i := 0) rfl 2).trans rfl; have b3 : w11.cell? ⟨g1, 3, none⟩ = some (.int .i64 a0_3) := (HL.out.box_cell (i := 0) rfl 3).trans rfl; have y0 : w11.cell? ⟨g6, 0, none⟩ = some (.int .i64 q1) := (HL.out.box_cell (i := 6) rfl 0).trans rfl; have y1 : w11.cell? ⟨g6, 1, none⟩ = some (.slice A4 p2.length c4) := (HL.out.box_cell (i := 6) rfl 1).trans rfl; have y2 : w11.cell? ⟨g6, 2, none⟩ = some (.slice A5 q3.length c5) := (HL.out.box_cell (i := 6) rfl 2).trans rfl)
              )
            go_loopg [7] q3.length (fun gk v7 wr => ∃ j : Nat, v7 = .int .i64 (j : Int) ∧ Aside0 (q3.length = j + gk) ∧ Aside0 (Live w wr [Box g1 #[.int .i64 (q3.length : Int), .slice A0_1 l0_1.length c0_1, .int .i64 a0_2, .int .i64 a0_3] 48, Row w.heap.size (Kd.int .i64) 3 (.slice A1 q2.length c1) q2, Row w.heap.size Kd.bool 4 (.slice A2 q3.length c2) q3, Box g3 #[.int .i64 q1, .slice A1 q2.length c1, .slice A2 q3.length c2] 39, Row w.heap.size (Kd.int .i64) 3 (.slice A4 p2.length c4) p2, Row w.heap.size Kd.bool 4 (.slice A5 q3.length c5) q3, Box g6 #[.int .i64 q1, .slice A4 p2.length c4, .slice A5 q3.length c5] 39]))
            case atStart => exact ⟨0, rfl, ⟨by omega⟩, HL⟩
            case round =>
              clear HL HFew HMax HEnds HAcc HRef
              obtain ⟨j, rfl, HK, HL⟩ := hrel
              have b0 : wr.cell? ⟨g1, 0, none⟩ = some (.int .i64 (q3.length : Int)) := (HL.out.box_cell (i := 0) rfl 0).trans rfl
              have x0 : wr.cell? ⟨g3, 0, none⟩ = some (.int .i64 q1) := (HL.out.box_cell (i := 3) rfl 0).trans rfl
              have x2 : wr.cell? ⟨g3, 2, none⟩ = some (.slice A2 q3.length c2) := (HL.out.box_cell (i := 3) rfl 2).trans rfl
              have y0 : wr.cell? ⟨g6, 0, none⟩ = some (.int .i64 q1) := (HL.out.box_cell (i := 6) rfl 0).trans rfl
              have y2 : wr.cell? ⟨g6, 2, none⟩ = some (.slice A5 q3.length c5) := (HL.out.box_cell (i := 6) rfl 2).trans rfl
              cases gk with
              | zero =>
                have hj : decide (j < q3.length) = false := decide_eq_false (by have := HK.out; omega)
                go_wp2
                go_ret
                exact ⟨rfl, HL.out.hb⟩
              | succ g2 =>
                have hj : decide (j < q3.length) = true := decide_eq_true (by have := HK.out; omega)
                have hjz : (j : Int) < (q3.length : Int) := by have := HK.out; omega
                have hjb : j + 1 < 9223372036854775808 := by have := HK.out; have := (Kd.R_reads' (HL.out.row (i := 2) rfl)).2.2.2.1; omega
                obtain ⟨ad, e, z1⟩ := Kd.at_bool (Kd.R_reads' (HL.out.row (i := 2) rfl)).2.2 (j : Int) (by omega) hjz
                subst e
                obtain ⟨ad2, e, z2⟩ := Kd.at_bool (Kd.R_reads' (HL.out.row (i := 5) rfl)).2.2 (j : Int) (by omega) hjz
                subst e
                rw [show ((j : Int)).toNat = j from rfl] at z1 z2
                generalize rdOf false q3 (j : Int) = bb at z1 z2
                go_upto_region 15 with (fail)
                go_quiet (fail)
                go_wp2
                go_roundg g2
                case measure => omega
                case rel => exact ⟨j + 1, by go_num, ⟨by have := HK.out; omega⟩, ⟨HL.out.drewN _⟩⟩
          · cases h5
        · cases h4
      · rename_i hx0
        split at h3
        · rename_i hg
          obtain ⟨rfl, rfl, rfl⟩ := hg
          have HAl := Aside0.mk h3
          clear h3
          have d1 : (q4 != 0) = true := bne_iff_ne.2 hx0
          go_wp2_with (first
            | ((with_reducible refine gate_dst (N := 1) rfl ?_); refine ev_new HL #[.int .i64 (a0_0), .slice A0_1 l0_1.length c0_1, .int .i64 a0_2, .int .i64 a0_3] 48 rfl 1 rfl ?hr ?_; (case hr => first | (go_simp; done) | (go_simp; rfl)); intro g1 w1 G1 HL1; clear HL; have HL := HL1; clear HL1; have b0 : w1.cell? ⟨g1, 0, none⟩ = some (.int .i64 (a0_0)) := (HL.out.box_cell (i := 0) rfl 0).trans rfl; have b1 : w1.cell? ⟨g1, 1, none⟩ = some (.slice A0_1 l0_1.length c0_1) := (HL.out.box_cell (i := 0) rfl 1).trans rfl; have b2 : w1.cell? ⟨g1, 2, none⟩ = some (.int .i64 a0_2) := (HL.out.box_cell (i := 0) rfl 2).trans rfl; have b3 : w1.cell? ⟨g1, 3, none⟩ = some (.int .i64 a0_3) := (HL.out.box_cell (i := 0) rfl 3).trans rfl)
            | ((with_reducible refine gate_callee (f := 26) rfl ?_); refine goesL_ (some 10) rfl rfl Try.func26 (by kernel_rfl) rfl #[.agg #[.int .i64 (a0_0), .slice A0_1 l0_1.length c0_1]] rfl (by (try simp only [List.map_toArray, List.map_cons, List.map_nil]); first | done | rfl) ?_; refine (codewrightlaw51_few.calls k (a0_0) A0_1 c0_1 l0_1 true _ (Kd.C_below HR0.out HL.out.hb) hc0_1 HFew.out).mono ?_; rintro e w2 ⟨rfl, hb⟩; refine ⟨_, rfl, ?_⟩; have HL1 := Aside0.mk (HL.out.same hb); clear HL hb; clear b0 b1 b2 b3; have HL := HL1; clear HL1; have b0 : w2.cell? ⟨g1, 0, none⟩ = some (.int .i64 (a0_0)) := (HL.out.box_cell (i := 0) rfl 0).trans rfl; have b1 : w2.cell? ⟨g1, 1, none⟩ = some (.slice A0_1 l0_1.length c0_1) := (HL.out.box_cell (i := 0) rfl 1).trans rfl; have b2 : w2.cell? ⟨g1, 2, none⟩ = some (.int .i64 a0_2) := (HL.out.box_cell (i := 0) rfl 2).trans rfl; have b3 : w2.cell? ⟨g1, 3, none⟩ = some (.int .i64 a0_3) := (HL.out.box_cell (i := 0) rfl 3).trans rfl)
            | ((with_reducible refine gate_callee (f := 27) rfl ?_); refine goesL_ (some 20) rfl rfl Try.func27 (by kernel_rfl) rfl #[.agg #[.int .i64 (a0_0), .slice A0_1 l0_1.length c0_1], .int .i64 a0_2, .int .i64 a0_3] rfl (by (try simp only [List.map_toArray, List.map_cons, List.map_nil]); first | done | rfl) ?_; refine (flow_Max.calls k (a0_0) A0_1 c0_1 l0_1 a0_2 a0_3 0 [] [] q4 _ (Kd.C_below HR0.out HL.out.hb) hc0_1 HMax.out).mono ?_; rintro e w3 ⟨v1, v2, rfl, ho1, ho2, hb⟩; refine ⟨_, rfl, ?_⟩; (obtain ⟨A1, c1, e1⟩ := Kd.R_slice ho1); subst e1; (obtain ⟨A2, c2, e2⟩ := Kd.R_slice ho2); subst e2; have HL1 := Aside0.mk (HL.out.add2 ho1 ho2 (by decide) hb); clear HL hb ho1 ho2; clear b0 b1 b2 b3; have HL := HL1; clear HL1; have b0 : w3.cell? ⟨g1, 0, none⟩ = some (.int .i64 (a0_0)) := (HL.out.box_cell (i := 0) rfl 0).trans rfl; have b1 : w3.cell? ⟨g1, 1, none⟩ = some (.slice A0_1 l0_1.length c0_1) := (HL.out.box_cell (i := 0) rfl 1).trans rfl; have b2 : w3.cell? ⟨g1, 2, none⟩ = some (.int .i64 a0_2) := (HL.out.box_cell (i := 0) rfl 2).trans rfl; have b3 : w3.cell? ⟨g1, 3, none⟩ = some (.int .i64 a0_3) := (HL.out.box_cell (i := 0) rfl 3).trans rfl)
            | ((with_reducible refine gate_dst (N := 3) rfl ?_); refine ev_new HL #[.int .i64 0, .slice none 0 0, .slice none 0 0] 39 rfl 3 rfl ?hr ?_; (case hr => first | (go_simp; done) | (go_simp; rfl)); intro g3 w4 G3 HL1; clear HL; clear b0 b1 b2 b3; have HL := HL1; clear HL1; have fb := HL.out.box_fz (i := 3) rfl; have bb := HL.out.box_cell (i := 3) rfl; have b0 : w4.cell? ⟨g1, 0, none⟩ = some (.int .i64 (a0_0)) := (HL.out.box_cell (i := 0) rfl 0).trans rfl; have b1 : w4.cell? ⟨g1, 1, none⟩ = some (.slice A0_1 l0_1.length c0_1) := (HL.out.box_cell (i := 0) rfl 1).trans rfl; have b2 : w4.cell? ⟨g1, 2, none⟩ = some (.int .i64 a0_2) := (HL.out.box_cell (i := 0) rfl 2).trans rfl; have b3 : w4.cell? ⟨g1, 3, none⟩ = some (.int .i64 a0_3) := (HL.out.box_cell (i := 0) rfl 3).trans rfl)
            | ((with_reducible refine gate_store (t := 39) (p := 3) rfl ?_); refine ev_set HL (fun h => ((h.setbox (i := 3) rfl G3 0 (.int .i64 0)).setbox (i := 3) rfl G3 1 (.slice A1 0 c1)).setbox (i := 3) rfl G3 2 (.slice A2 0 c2)) 39 3 rfl rfl rfl ?hr ?_; (case hr => first | (go_simp; done) | (go_simp; rfl)); intro w5 HL1; clear HL fb bb; clear b0 b1 b2 b3; have HL := HL1; clear HL1; have b0 : w5.cell? ⟨g1, 0, none⟩ = some (.int .i64 (a0_0)) := (HL.out.box_cell (i := 0) rfl 0).trans rfl; have b1 : w5.cell? ⟨g1, 1, none⟩ = some (.slice A0_1 l0_1.length c0_1) := (HL.out.box_cell (i := 0) rfl 1).trans rfl; have b2 : w5.cell? ⟨g1, 2, none⟩ = some (.int .i64 a0_2) := (HL.out.box_cell (i := 0) rfl 2).trans rfl; have b3 : w5.cell? ⟨g1, 3, none⟩ = some (.int .i64 a0_3) := (HL.out.box_cell (i := 0) rfl 3).trans rfl; have x0 : w5.cell? ⟨g3, 0, none⟩ = some (.int .i64 0) := (HL.out.box_cell (i := 3) rfl 0).trans rfl; have x1 : w5.cell? ⟨g3, 1, none⟩ = some (.slice A1 0 c1) := (HL.out.box_cell (i := 3) rfl 1).trans rfl; have x2 : w5.cell? ⟨g3, 2, none⟩ = some (.slice A2 0 c2) := (HL.out.box_cell (i := 3) rfl 2).trans rfl)
            | ((with_reducible refine gate_callee (f := 21) rfl ?_); refine goesL_ (some 29) rfl rfl Try.func21 (by kernel_rfl) rfl #[.agg #[.int .i64 (a0_0), .slice A0_1 l0_1.length c0_1], .int .i64 a0_2, .int .i64 a0_3] rfl (by (try simp only [List.map_toArray, List.map_cons, List.map_nil]); first | done | rfl) ?_; refine (codewrightref51_Ends.calls k (a0_0) A0_1 c0_1 l0_1 a0_2 a0_3 q4 _ (Kd.C_below HR0.out HL.out.hb) hc0_1 HEnds.out).mono ?_; rintro e w6 ⟨rfl, hb⟩; refine ⟨_, rfl, ?_⟩; have HL1 := Aside0.mk (HL.out.same hb); clear HL hb x0 x1 x2; clear b0 b1 b2 b3; have HL := HL1; clear HL1; have b0 : w6.cell? ⟨g1, 0, none⟩ = some (.int .i64 (a0_0)) := (HL.out.box_cell (i := 0) rfl 0).trans rfl; have b1 : w6.cell? ⟨g1, 1, none⟩ = some (.slice A0_1 l0_1.length c0_1) := (HL.out.box_cell (i := 0) rfl 1).trans rfl; have b2 : w6.cell? ⟨g1, 2, none⟩ = some (.int .i64 a0_2) := (HL.out.box_cell (i := 0) rfl 2).trans rfl; have b3 : w6.cell? ⟨g1, 3, none⟩ = some (.int .i64 a0_3) := (HL.out.box_cell (i := 0) rfl 3).trans rfl; have x0 : w6.cell? ⟨g3, 0, none⟩ = some (.int .i64 0) := (HL.out.box_cell (i := 3) rfl 0).trans rfl; have x1 : w6.cell? ⟨g3, 1, none⟩ = some (.slice A1 0 c1) := (HL.out.box_cell (i := 3) rfl 1).trans rfl; have x2 : w6.cell? ⟨g3, 2, none⟩ = some (.slice A2 0 c2) := (HL.out.box_cell (i := 3) rfl 2).trans rfl)
            | ((with_reducible refine gate_callee (f := 18) rfl ?_); refine gate_guard (by rfl) ?_; dsimp only; refine goesL_ (some 51) rfl rfl Try.func18 (by kernel_rfl) rfl #[] rfl (by (try simp only [List.map_toArray, List.map_cons, List.map_nil]); first | done | rfl) ?_; refine (codewrightlaw51_alive.calls k r _ HAl.out).mono ?_; rintro e w9 ⟨rfl, hb⟩; refine ⟨_, rfl, ?_⟩; have HL1 := Aside0.mk (HL.out.same hb); clear HL hb; have HL := HL1; clear HL1)
            )
          go_ret
          exact ⟨rfl, HL.out.hb⟩
        · cases h3
    · cases h3
end Go.Proofs.Ytidomjhihfoabaa.PF
