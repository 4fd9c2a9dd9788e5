/- flow.Least: what its call does, as a plain function on lists. -/
import Derived.Test.YtidomjhihfoabaaHLeast1
import Derived.Test.YtidomjhihfoabaaHSrch
import Derived.Test.YtidomjhihfoabaaPFx38
namespace Go.Proofs.Ytidomjhihfoabaa.PF
open Go Go.RowKit Go.Lib Go.Proofs.YtidomjhihfoabaaW.PrintWords Go.Proofs.YtidomjhihfoabaaW.PrintLast Go.Proofs.Ytidomjhihfoabaa.Lv
set_option linter.unusedVariables false
set_option linter.unusedSimpArgs false

/-- the list of free arcs is ascending and in range, from place j on -/
def lsScan (L : Int) (free : List Int) : Nat → Nat → Bool
  | 0, _ => true
  | d + 1, j => if rd free (j : Int) < 0 ∨ rd free (j : Int) ≥ L ∨ (0 < j ∧ rd free (j : Int) ≤ rd free ((j : Int) - 1)) then false else lsScan L free d (j + 1)
def flow_Least.f (k : Nat) (n : Int) (l : List S36) (s t need : Int) (free : List Int) : Option (Int × Int) :=
  (flow_ends.f k n l s t).bind fun e => if e = 0 then (if need < 0 then some (0, 6) else if lsScan (l.length : Int) free free.length 0 = true then
    (lsEnough k n l s t need free 1099511627776).bind fun b => if b = true then (srchLoop (lsEnough k n l s t need free) k 0 1099511627776).bind fun r => some (r, 0) else some (0, 11) else some (0, 5)) else some (0, e)
theorem lsScan_bad {L : Int} {free : List Int} {d j : Nat} (h : rd free (j : Int) < 0 ∨ rd free (j : Int) ≥ L ∨ (0 < j ∧ rd free (j : Int) ≤ rd free ((j : Int) - 1))) : lsScan L free (d + 1) j = false := by rw [lsScan, if_pos h]
theorem lsScan_ok {L : Int} {free : List Int} {d j : Nat} (h : ¬ (rd free (j : Int) < 0 ∨ rd free (j : Int) ≥ L ∨ (0 < j ∧ rd free (j : Int) ≤ rd free ((j : Int) - 1)))) : lsScan L free (d + 1) j = lsScan L free d (j + 1) := by rw [lsScan, if_neg h]
theorem lsEnough_mono (n : Int) (l : List S36) (s t need : Int) (free : List Int) (c : Int) (k : Nat) : LeO (lsEnough k n l s t need free c) (lsEnough (k + 1) n l s t need free c) := by
  unfold lsEnough
  exact LeO.ite (LeO.bind (LeO.refl _) (fun _ => LeO.bind (flow_greatest.mono _ _ _ _ _) (fun _ => LeO.refl _))) (LeO.refl _)
theorem flow_Least.mono : ∀ a0 a1 a2 a3 a4 a5 k, LeO (flow_Least.f k a0 a1 a2 a3 a4 a5) (flow_Least.f (k + 1) a0 a1 a2 a3 a4 a5) := by
  intro a0 a1 a2 a3 a4 a5 k
  unfold flow_Least.f
  refine LeO.bind (flow_ends.mono _ _ _ _ _) (fun _ => LeO.ite (LeO.ite (LeO.refl _) (LeO.ite (LeO.bind (lsEnough_mono _ _ _ _ _ _ _ _) (fun _ => LeO.ite (LeO.bind ?_ (fun _ => LeO.refl _)) (LeO.refl _))) (LeO.refl _))) (LeO.refl _))
  intro r h
  exact srchLoop_mono _ _ (fun x b hx => lsEnough_mono _ _ _ _ _ _ _ _ _ hx) _ _ _ _ h

/-- what the closure's predicate is, wherever nothing that lay there has turned -/
theorem least_pred (k : Nat) (n : Int) (A : Option Addr) (c0 : Nat) (l : List S36) (s t need : Int) (A4 : Option Addr) (c4 : Nat) (free : List Int) (g5 g6 g7 g8 g9 : Nat) (w : World)
    (hr : Kd.C k36 w A l.length l) (hr4 : Kd.C (Kd.int .i64) w A4 free.length free)
    (h5 : w.heap[g5]? = some (.cells #[.int .i64 n, .slice A l.length c0] 24 (0, 0))) (h9 : w.heap[g9]? = some (.cells #[.slice A4 free.length c4] 33 (0, 0)))
    (h6 : w.heap[g6]? = some (.cells #[.int .i64 s] 3 (0, 0))) (h7 : w.heap[g7]? = some (.cells #[.int .i64 t] 3 (0, 0))) (h8 : w.heap[g8]? = some (.cells #[.int .i64 need] 3 (0, 0))) :
    Pred2 47 #[.pointer (some ⟨g5, 0, none⟩), .pointer (some ⟨g9, 0, none⟩), .pointer (some ⟨g6, 0, none⟩), .pointer (some ⟨g7, 0, none⟩), .pointer (some ⟨g8, 0, none⟩)] (lsEnough k n l s t need free) w := by
  intro W x b hb hx
  have mv : ∀ {g : Nat} {o : Obj}, w.heap[g]? = some o → W.heap[g]? = some o := fun {g o} h => (hb.block g (Array.getElem?_eq_some_iff.1 h).1).trans h
  exact (least1_calls k n A c0 l s t need A4 c4 free g5 g6 g7 g8 g9 x b W (Kd.C_below hr hb) (Kd.C_below hr4 hb) (mv h5) (mv h9) (mv h6) (mv h7) (mv h8) hx).mono fun e w' ⟨he, hw⟩ => ⟨he, below_step hb hw⟩

set_option maxHeartbeats 4000000 in
set_option maxRecDepth 100000 in
theorem flow_Least.calls (k : Nat) (a0_0 : Int) (A0_1 : Option Addr) (c0_1 : Nat) (l0_1 : List S36) (a1 a2 a3 : Int) (A4 : Option Addr) (c4 : Nat) (l4 : List Int) (r1 r2 : Int) (w : World)
    (hr0_1 : Kd.C k36 w A0_1 l0_1.length l0_1) (hc0_1 : l0_1.length ≤ c0_1) (hr4 : Kd.C (Kd.int .i64) w A4 l4.length l4) (hc4 : l4.length ≤ c4) (h : flow_Least.f k a0_0 l0_1 a1 a2 a3 l4 = some (r1, r2)) :
    Calls Try.prog 32 #[.agg #[.int .i64 a0_0, .slice A0_1 l0_1.length c0_1], .int .i64 a1, .int .i64 a2, .int .i64 a3, .slice A4 l4.length c4] w fun e w' => e = .returned (.tuple #[.int .i64 r1, .int .i64 r2]) ∧ Below w.heap.size w w' := by
  have hu24 := Try.underlying24
  have HR := Aside0.mk hr0_1
  have HR4 := Aside0.mk hr4
  clear hr0_1 hr4
  unfold flow_Least.f at h
  obtain ⟨e, he, h1⟩ := Option.bind_eq_some_iff.1 h
  have HE := Aside0.mk he
  clear h he
  have HL := Aside0.mk (Live.nil w)
  split at h1
  · rename_i e0
    subst e0
    split at h1
    · rename_i hneed
      simp only [Option.some.injEq, Prod.mk.injEq] at h1
      obtain ⟨rfl, rfl⟩ := h1
      have d1 : decide (a3 < 0) = true := decide_eq_true hneed
      go_enter Try.func32, Try.ntmps32
      go_wp2_with (first
        | ((with_reducible refine gate_dst (N := 5) rfl ?_); refine ev_new HL #[.int .i64 a0_0, .slice A0_1 l0_1.length c0_1] 24 rfl 5 rfl ?hr ?_; (case hr => first | (go_simp; done) | (go_simp; rfl)); intro g5 w5 G5 HL1; clear HL; have HL := HL1; clear HL1)
        | ((with_reducible refine gate_dst (N := 6) rfl ?_); refine ev_new HL #[.int .i64 a1] 3 rfl 6 rfl ?hr ?_; (case hr => first | (go_simp; done) | (go_simp; rfl)); intro g6 w6 G6 HL1; clear HL; have HL := HL1; clear HL1)
        | ((with_reducible refine gate_dst (N := 7) rfl ?_); refine ev_new HL #[.int .i64 a2] 3 rfl 7 rfl ?hr ?_; (case hr => first | (go_simp; done) | (go_simp; rfl)); intro g7 w7 G7 HL1; clear HL; have HL := HL1; clear HL1)
        | ((with_reducible refine gate_dst (N := 8) rfl ?_); refine ev_new HL #[.int .i64 a3] 3 rfl 8 rfl ?hr ?_; (case hr => first | (go_simp; done) | (go_simp; rfl)); intro g8 w8 G8 HL1; clear HL; have HL := HL1; clear HL1)
        | ((with_reducible refine gate_dst (N := 9) rfl ?_); refine ev_new HL #[.slice A4 l4.length c4] 33 rfl 9 rfl ?hr ?_; (case hr => first | (go_simp; done) | (go_simp; rfl)); intro g9 w9 G9 HL1; clear HL; have HL := HL1; clear HL1; have o50 : w9.cell? ⟨g5, 0, none⟩ = some (.int .i64 a0_0) := (HL.out.box_cell (i := 0) rfl 0).trans rfl; have o51 : w9.cell? ⟨g5, 1, none⟩ = some (.slice A0_1 l0_1.length c0_1) := (HL.out.box_cell (i := 0) rfl 1).trans rfl; have o6 : w9.cell? ⟨g6, 0, none⟩ = some (.int .i64 a1) := (HL.out.box_cell (i := 1) rfl 0).trans rfl; have o7 : w9.cell? ⟨g7, 0, none⟩ = some (.int .i64 a2) := (HL.out.box_cell (i := 2) rfl 0).trans rfl; have o8 : w9.cell? ⟨g8, 0, none⟩ = some (.int .i64 a3) := (HL.out.box_cell (i := 3) rfl 0).trans rfl; have o9 : w9.cell? ⟨g9, 0, none⟩ = some (.slice A4 l4.length c4) := (HL.out.box_cell (i := 4) rfl 0).trans rfl)
        | ((with_reducible refine gate_callee (f := 38) rfl ?_); refine goesL_ (some 19) rfl rfl Try.func38 (by kernel_rfl) rfl #[.agg #[.int .i64 a0_0, .slice A0_1 l0_1.length c0_1], .int .i64 a1, .int .i64 a2] rfl (by (try simp only [List.map_toArray, List.map_cons, List.map_nil]); first | done | rfl) ?_; refine (flow_ends.calls k a0_0 A0_1 c0_1 l0_1 a1 a2 0 _ (Kd.C_below HR.out HL.out.hb) hc0_1 HE.out).mono ?_; rintro e w10 ⟨rfl, hb⟩; refine ⟨_, rfl, ?_⟩; have HL1 := Aside0.mk (HL.out.same hb); clear HL hb o50 o51 o6 o7 o8 o9; have HL := HL1; clear HL1; have o50 : w10.cell? ⟨g5, 0, none⟩ = some (.int .i64 a0_0) := (HL.out.box_cell (i := 0) rfl 0).trans rfl; have o51 : w10.cell? ⟨g5, 1, none⟩ = some (.slice A0_1 l0_1.length c0_1) := (HL.out.box_cell (i := 0) rfl 1).trans rfl; have o6 : w10.cell? ⟨g6, 0, none⟩ = some (.int .i64 a1) := (HL.out.box_cell (i := 1) rfl 0).trans rfl; have o7 : w10.cell? ⟨g7, 0, none⟩ = some (.int .i64 a2) := (HL.out.box_cell (i := 2) rfl 0).trans rfl; have o8 : w10.cell? ⟨g8, 0, none⟩ = some (.int .i64 a3) := (HL.out.box_cell (i := 3) rfl 0).trans rfl; have o9 : w10.cell? ⟨g9, 0, none⟩ = some (.slice A4 l4.length c4) := (HL.out.box_cell (i := 4) rfl 0).trans rfl)
        )
      go_ret2
      exact ⟨rfl, HL.out.hb⟩
    · rename_i hneed
      have d1 : decide (a3 < 0) = false := decide_eq_false hneed
      go_enter Try.func32, Try.ntmps32
      go_wp2_with (first
        | ((with_reducible refine gate_dst (N := 5) rfl ?_); refine ev_new HL #[.int .i64 a0_0, .slice A0_1 l0_1.length c0_1] 24 rfl 5 rfl ?hr ?_; (case hr => first | (go_simp; done) | (go_simp; rfl)); intro g5 w5 G5 HL1; clear HL; have HL := HL1; clear HL1)
        | ((with_reducible refine gate_dst (N := 6) rfl ?_); refine ev_new HL #[.int .i64 a1] 3 rfl 6 rfl ?hr ?_; (case hr => first | (go_simp; done) | (go_simp; rfl)); intro g6 w6 G6 HL1; clear HL; have HL := HL1; clear HL1)
        | ((with_reducible refine gate_dst (N := 7) rfl ?_); refine ev_new HL #[.int .i64 a2] 3 rfl 7 rfl ?hr ?_; (case hr => first | (go_simp; done) | (go_simp; rfl)); intro g7 w7 G7 HL1; clear HL; have HL := HL1; clear HL1)
        | ((with_reducible refine gate_dst (N := 8) rfl ?_); refine ev_new HL #[.int .i64 a3] 3 rfl 8 rfl ?hr ?_; (case hr => first | (go_simp; done) | (go_simp; rfl)); intro g8 w8 G8 HL1; clear HL; have HL := HL1; clear HL1)
        | ((with_reducible refine gate_dst (N := 9) rfl ?_); refine ev_new HL #[.slice A4 l4.length c4] 33 rfl 9 rfl ?hr ?_; (case hr => first | (go_simp; done) | (go_simp; rfl)); intro g9 w9 G9 HL1; clear HL; have HL := HL1; clear HL1; have o50 : w9.cell? ⟨g5, 0, none⟩ = some (.int .i64 a0_0) := (HL.out.box_cell (i := 0) rfl 0).trans rfl; have o51 : w9.cell? ⟨g5, 1, none⟩ = some (.slice A0_1 l0_1.length c0_1) := (HL.out.box_cell (i := 0) rfl 1).trans rfl; have o6 : w9.cell? ⟨g6, 0, none⟩ = some (.int .i64 a1) := (HL.out.box_cell (i := 1) rfl 0).trans rfl; have o7 : w9.cell? ⟨g7, 0, none⟩ = some (.int .i64 a2) := (HL.out.box_cell (i := 2) rfl 0).trans rfl; have o8 : w9.cell? ⟨g8, 0, none⟩ = some (.int .i64 a3) := (HL.out.box_cell (i := 3) rfl 0).trans rfl; have o9 : w9.cell? ⟨g9, 0, none⟩ = some (.slice A4 l4.length c4) := (HL.out.box_cell (i := 4) rfl 0).trans rfl)
        | ((with_reducible refine gate_callee (f := 38) rfl ?_); refine goesL_ (some 19) rfl rfl Try.func38 (by kernel_rfl) rfl #[.agg #[.int .i64 a0_0, .slice A0_1 l0_1.length c0_1], .int .i64 a1, .int .i64 a2] rfl (by (try simp only [List.map_toArray, List.map_cons, List.map_nil]); first | done | rfl) ?_; refine (flow_ends.calls k a0_0 A0_1 c0_1 l0_1 a1 a2 0 _ (Kd.C_below HR.out HL.out.hb) hc0_1 HE.out).mono ?_; rintro e w10 ⟨rfl, hb⟩; refine ⟨_, rfl, ?_⟩; have HL1 := Aside0.mk (HL.out.same hb); clear HL hb o50 o51 o6 o7 o8 o9; have HL := HL1; clear HL1; have o50 : w10.cell? ⟨g5, 0, none⟩ = some (.int .i64 a0_0) := (HL.out.box_cell (i := 0) rfl 0).trans rfl; have o51 : w10.cell? ⟨g5, 1, none⟩ = some (.slice A0_1 l0_1.length c0_1) := (HL.out.box_cell (i := 0) rfl 1).trans rfl; have o6 : w10.cell? ⟨g6, 0, none⟩ = some (.int .i64 a1) := (HL.out.box_cell (i := 1) rfl 0).trans rfl; have o7 : w10.cell? ⟨g7, 0, none⟩ = some (.int .i64 a2) := (HL.out.box_cell (i := 2) rfl 0).trans rfl; have o8 : w10.cell? ⟨g8, 0, none⟩ = some (.int .i64 a3) := (HL.out.box_cell (i := 3) rfl 0).trans rfl; have o9 : w10.cell? ⟨g9, 0, none⟩ = some (.slice A4 l4.length c4) := (HL.out.box_cell (i := 4) rfl 0).trans rfl)
        )
      clear o50 o51 o6 o7 o8 o9
      have HH := Aside0.mk h1
      clear h1
      go_loopg [13, 14, 27] l4.length (fun gk _ _ v27 wr => ∃ j : Nat, v27 = .int .i64 (j : Int) ∧ Aside0 (l4.length = j + gk) ∧ Aside0 ((if lsScan (l0_1.length : Int) l4 gk j = true then
          (lsEnough k a0_0 l0_1 a1 a2 a3 l4 1099511627776).bind fun b => if b = true then (srchLoop (lsEnough k a0_0 l0_1 a1 a2 a3 l4) k 0 1099511627776).bind fun r => some (r, (0 : Int)) else some (0, 11) else some (0, 5)) = some (r1, r2)) ∧ Aside0 (Live w wr [Box g5 #[.int .i64 a0_0, .slice A0_1 l0_1.length c0_1] 24, Box g6 #[.int .i64 a1] 3, Box g7 #[.int .i64 a2] 3, Box g8 #[.int .i64 a3] 3, Box g9 #[.slice A4 l4.length c4] 33]))
      case atStart => exact ⟨0, rfl, ⟨by omega⟩, HH, HL⟩
      case round =>
        clear HL HH
        obtain ⟨j, rfl, HK, HH, HL⟩ := hrel
        have o50 : wr.cell? ⟨g5, 0, none⟩ = some (.int .i64 a0_0) := (HL.out.box_cell (i := 0) rfl 0).trans rfl
        have o51 : wr.cell? ⟨g5, 1, none⟩ = some (.slice A0_1 l0_1.length c0_1) := (HL.out.box_cell (i := 0) rfl 1).trans rfl
        have o6 : wr.cell? ⟨g6, 0, none⟩ = some (.int .i64 a1) := (HL.out.box_cell (i := 1) rfl 0).trans rfl
        have o7 : wr.cell? ⟨g7, 0, none⟩ = some (.int .i64 a2) := (HL.out.box_cell (i := 2) rfl 0).trans rfl
        have o8 : wr.cell? ⟨g8, 0, none⟩ = some (.int .i64 a3) := (HL.out.box_cell (i := 3) rfl 0).trans rfl
        have o9 : wr.cell? ⟨g9, 0, none⟩ = some (.slice A4 l4.length c4) := (HL.out.box_cell (i := 4) rfl 0).trans rfl
        cases gk with
        | zero =>
          have hj : decide (j < l4.length) = false := decide_eq_false (by have := HK.out; omega)
          have h1 := HH.out
          rw [lsScan, if_pos rfl] at h1
          obtain ⟨b, hb, h2⟩ := Option.bind_eq_some_iff.1 h1
          clear h1 HH
          have HC := Aside0.mk (least1_calls k a0_0 A0_1 c0_1 l0_1 a1 a2 a3 A4 c4 l4 g5 g6 g7 g8 g9 1099511627776 b wr (Kd.C_below HR.out HL.out.hb) (Kd.C_below HR4.out HL.out.hb) (HL.out.box (i := 0) rfl) (HL.out.box (i := 4) rfl) (HL.out.box (i := 1) rfl) (HL.out.box (i := 2) rfl) (HL.out.box (i := 3) rfl) hb)
          clear hb
          cases b with
          | true =>
            rw [if_pos rfl] at h2
            obtain ⟨r, hs, h3⟩ := Option.bind_eq_some_iff.1 h2
            simp only [Option.some.injEq, Prod.mk.injEq] at h3
            obtain ⟨rfl, rfl⟩ := h3
            have HS := Aside0.mk hs
            clear h2 hs
            go_wp2_with (first
              | (go_at_call 47; refine HC.out.mono ?_; rintro e w8 ⟨rfl, hb⟩; have HL1 := Aside0.mk (HL.out.same hb); clear HL hb HC o50 o51 o6 o7 o8 o9; have HL := HL1; clear HL1)
              | (go_at_call 49; refine (search_calls k (lsEnough k a0_0 l0_1 a1 a2 a3 l4) 47 _ (enters_of Try.func47 (by kernel_rfl) rfl) 1099511627776 r w8 (least_pred k a0_0 A0_1 c0_1 l0_1 a1 a2 a3 A4 c4 l4 g5 g6 g7 g8 g9 w8 (Kd.C_below HR.out HL.out.hb) (Kd.C_below HR4.out HL.out.hb) (HL.out.box (i := 0) rfl) (HL.out.box (i := 4) rfl) (HL.out.box (i := 1) rfl) (HL.out.box (i := 2) rfl) (HL.out.box (i := 3) rfl)) HS.out).mono ?_; rintro e w9 ⟨rfl, hb⟩; have HL1 := Aside0.mk (HL.out.same hb); clear HL hb; have HL := HL1; clear HL1)
              )
            go_ret2
            exact ⟨rfl, HL.out.hb⟩
          | false =>
            rw [if_neg (by decide)] at h2
            simp only [Option.some.injEq, Prod.mk.injEq] at h2
            obtain ⟨rfl, rfl⟩ := h2
            go_wp2_with (first
              | (go_at_call 47; refine HC.out.mono ?_; rintro e w8 ⟨rfl, hb⟩; have HL1 := Aside0.mk (HL.out.same hb); clear HL hb HC o50 o51 o6 o7 o8 o9; have HL := HL1; clear HL1)
              )
            go_ret2
            exact ⟨rfl, HL.out.hb⟩
        | succ g2 =>
          have hj : decide (j < l4.length) = true := decide_eq_true (by have := HK.out; omega)
          have hjz : (j : Int) < (l4.length : Int) := by have := HK.out; omega
          have hjb : j + 1 < 9223372036854775808 := by have := HK.out; have := HR4.out.2.1; omega
          obtain ⟨ad, e, xa⟩ := Kd.at_int HR4.out (j : Int) (by omega) hjz
          subst e
          rw [show ((j : Int)).toNat = j from rfl] at xa
          replace xa := HL.out.old xa
          have h1 := HH.out
          clear HH
          by_cases c1 : rd l4 (j : Int) < 0
          · rw [lsScan_bad (.inl c1), if_neg (by decide)] at h1
            simp only [Option.some.injEq, Prod.mk.injEq] at h1
            obtain ⟨rfl, rfl⟩ := h1
            generalize rd l4 (j : Int) = x at xa c1
            have q1 : decide (x < 0) = true := decide_eq_true c1
            clear c1
            go_wp2
            go_ret2
            exact ⟨rfl, HL.out.hb⟩
          by_cases c2 : rd l4 (j : Int) ≥ (l0_1.length : Int)
          · rw [lsScan_bad (.inr (.inl c2)), if_neg (by decide)] at h1
            simp only [Option.some.injEq, Prod.mk.injEq] at h1
            obtain ⟨rfl, rfl⟩ := h1
            generalize rd l4 (j : Int) = x at xa c1 c2
            have q1 : decide (x < 0) = false := decide_eq_false c1
            have q2 : decide ((l0_1.length : Int) ≤ x) = true := decide_eq_true c2
            clear c1 c2
            go_wp2
            go_ret2
            exact ⟨rfl, HL.out.hb⟩
          by_cases c3 : 0 < j
          · have c3' : (0 : Int) < (j : Int) := by omega
            have c3'' : (1 : Int) ≤ (j : Int) := by omega
            have q3 : decide (0 < j) = true := decide_eq_true c3
            have hlt1 : (j : Int) - 1 < (l4.length : Int) := by omega
            obtain ⟨ad', e', xb⟩ := Kd.at_int HR4.out ((j : Int) - 1) (by omega) (by omega)
            obtain rfl := Option.some.inj e'
            rw [show ((j : Int) - 1).toNat = j - 1 by omega] at xb
            replace xb := HL.out.old xb
            by_cases c4 : rd l4 (j : Int) ≤ rd l4 ((j : Int) - 1)
            · rw [lsScan_bad (.inr (.inr ⟨c3, c4⟩)), if_neg (by decide)] at h1
              simp only [Option.some.injEq, Prod.mk.injEq] at h1
              obtain ⟨rfl, rfl⟩ := h1
              generalize rd l4 (j : Int) = x at xa c1 c2 c4
              generalize rd l4 ((j : Int) - 1) = y at xb c4
              have q1 : decide (x < 0) = false := decide_eq_false c1
              have q2 : decide ((l0_1.length : Int) ≤ x) = false := decide_eq_false c2
              have q4 : decide (x ≤ y) = true := decide_eq_true c4
              clear c1 c2 c4 c3
              go_wp2
              go_ret2
              exact ⟨rfl, HL.out.hb⟩
            · rw [lsScan_ok (fun q => by rcases q with q | q | q; exact c1 q; exact c2 q; exact c4 q.2)] at h1
              have HH := Aside0.mk h1
              clear h1
              generalize rd l4 (j : Int) = x at xa c1 c2 c4
              generalize rd l4 ((j : Int) - 1) = y at xb c4
              have q1 : decide (x < 0) = false := decide_eq_false c1
              have q2 : decide ((l0_1.length : Int) ≤ x) = false := decide_eq_false c2
              have q4 : decide (x ≤ y) = false := decide_eq_false c4
              clear c1 c2 c4 c3
              go_wp2
              go_roundg g2
              case measure => omega
              case rel => exact ⟨j + 1, by go_num, ⟨by have := HK.out; omega⟩, HH, HL⟩
          · rw [lsScan_ok (fun q => by rcases q with q | q | q; exact c1 q; exact c2 q; exact c3 q.1)] at h1
            have HH := Aside0.mk h1
            clear h1
            have q3 : decide (0 < j) = false := decide_eq_false c3
            generalize rd l4 (j : Int) = x at xa c1 c2
            have q1 : decide (x < 0) = false := decide_eq_false c1
            have q2 : decide ((l0_1.length : Int) ≤ x) = false := decide_eq_false c2
            clear c1 c2 c3
            go_wp2
            go_roundg g2
            case measure => omega
            case rel => exact ⟨j + 1, by go_num, ⟨by have := HK.out; omega⟩, HH, HL⟩
  · rename_i hne
    simp only [Option.some.injEq, Prod.mk.injEq] at h1
    obtain ⟨rfl, rfl⟩ := h1
    have d1 : (e != 0) = true := bne_iff_ne.2 hne
    go_enter Try.func32, Try.ntmps32
    go_wp2_with (first
      | ((with_reducible refine gate_dst (N := 5) rfl ?_); refine ev_new HL #[.int .i64 a0_0, .slice A0_1 l0_1.length c0_1] 24 rfl 5 rfl ?hr ?_; (case hr => first | (go_simp; done) | (go_simp; rfl)); intro g5 w5 G5 HL1; clear HL; have HL := HL1; clear HL1)
        | ((with_reducible refine gate_dst (N := 6) rfl ?_); refine ev_new HL #[.int .i64 a1] 3 rfl 6 rfl ?hr ?_; (case hr => first | (go_simp; done) | (go_simp; rfl)); intro g6 w6 G6 HL1; clear HL; have HL := HL1; clear HL1)
        | ((with_reducible refine gate_dst (N := 7) rfl ?_); refine ev_new HL #[.int .i64 a2] 3 rfl 7 rfl ?hr ?_; (case hr => first | (go_simp; done) | (go_simp; rfl)); intro g7 w7 G7 HL1; clear HL; have HL := HL1; clear HL1)
        | ((with_reducible refine gate_dst (N := 8) rfl ?_); refine ev_new HL #[.int .i64 a3] 3 rfl 8 rfl ?hr ?_; (case hr => first | (go_simp; done) | (go_simp; rfl)); intro g8 w8 G8 HL1; clear HL; have HL := HL1; clear HL1)
        | ((with_reducible refine gate_dst (N := 9) rfl ?_); refine ev_new HL #[.slice A4 l4.length c4] 33 rfl 9 rfl ?hr ?_; (case hr => first | (go_simp; done) | (go_simp; rfl)); intro g9 w9 G9 HL1; clear HL; have HL := HL1; clear HL1; have o50 : w9.cell? ⟨g5, 0, none⟩ = some (.int .i64 a0_0) := (HL.out.box_cell (i := 0) rfl 0).trans rfl; have o51 : w9.cell? ⟨g5, 1, none⟩ = some (.slice A0_1 l0_1.length c0_1) := (HL.out.box_cell (i := 0) rfl 1).trans rfl; have o6 : w9.cell? ⟨g6, 0, none⟩ = some (.int .i64 a1) := (HL.out.box_cell (i := 1) rfl 0).trans rfl; have o7 : w9.cell? ⟨g7, 0, none⟩ = some (.int .i64 a2) := (HL.out.box_cell (i := 2) rfl 0).trans rfl; have o8 : w9.cell? ⟨g8, 0, none⟩ = some (.int .i64 a3) := (HL.out.box_cell (i := 3) rfl 0).trans rfl; have o9 : w9.cell? ⟨g9, 0, none⟩ = some (.slice A4 l4.length c4) := (HL.out.box_cell (i := 4) rfl 0).trans rfl)
      | ((with_reducible refine gate_callee (f := 38) rfl ?_); refine goesL_ (some 19) rfl rfl Try.func38 (by kernel_rfl) rfl #[.agg #[.int .i64 a0_0, .slice A0_1 l0_1.length c0_1], .int .i64 a1, .int .i64 a2] rfl (by (try simp only [List.map_toArray, List.map_cons, List.map_nil]); first | done | rfl) ?_; refine (flow_ends.calls k a0_0 A0_1 c0_1 l0_1 a1 a2 e _ (Kd.C_below HR.out HL.out.hb) hc0_1 HE.out).mono ?_; rintro e w10 ⟨rfl, hb⟩; refine ⟨_, rfl, ?_⟩; have HL1 := Aside0.mk (HL.out.same hb); clear HL hb o50 o51 o6 o7 o8 o9; have HL := HL1; clear HL1; have o50 : w10.cell? ⟨g5, 0, none⟩ = some (.int .i64 a0_0) := (HL.out.box_cell (i := 0) rfl 0).trans rfl; have o51 : w10.cell? ⟨g5, 1, none⟩ = some (.slice A0_1 l0_1.length c0_1) := (HL.out.box_cell (i := 0) rfl 1).trans rfl; have o6 : w10.cell? ⟨g6, 0, none⟩ = some (.int .i64 a1) := (HL.out.box_cell (i := 1) rfl 0).trans rfl; have o7 : w10.cell? ⟨g7, 0, none⟩ = some (.int .i64 a2) := (HL.out.box_cell (i := 2) rfl 0).trans rfl; have o8 : w10.cell? ⟨g8, 0, none⟩ = some (.int .i64 a3) := (HL.out.box_cell (i := 3) rfl 0).trans rfl; have o9 : w10.cell? ⟨g9, 0, none⟩ = some (.slice A4 l4.length c4) := (HL.out.box_cell (i := 4) rfl 0).trans rfl)
      )
    go_ret2
    exact ⟨rfl, HL.out.hb⟩
end Go.Proofs.Ytidomjhihfoabaa.PF
