-- thin
import Derived.Test.YtidomjhihfoabaaPFx0
import Derived.Test.YtidomjhihfoabaaLive
import Derived.Test.YtidomjhihfoabaaWMore
import Derived.Test.YtidomjhihfoabaaWQPut
import Derived.Test.YtidomjhihfoabaaLive2
import Derived.Test.YtidomjhihfoabaaWTab
/- flow.search: what its call does, as a plain function on lists. -/
namespace Go.Proofs.Ytidomjhihfoabaa.PF
open Go Go.RowKit Go.Lib Go.Proofs.YtidomjhihfoabaaW.PrintWords Go.Proofs.YtidomjhihfoabaaW.PrintLast Go.Proofs.Ytidomjhihfoabaa.Lv
set_option linter.unusedVariables false
set_option linter.unusedSimpArgs false

theorem hi4 : (Try.prog.info? 4).map (fun i => (i.zero, i.size, i.bytes)) = some (some (.bool false), 1, 1) := by kernel_rfl
theorem hi86 : (Try.prog.info? 86).map (fun i => (i.zero, i.size, i.bytes)) = some (some (.agg #[.int .i64 0, .bool false]), 2, 16) := by kernel_rfl
theorem hi3 : (Try.prog.info? 3).map (fun i => (i.zero, i.size, i.bytes)) = some (some (.int .i64 0), 1, 8) := by kernel_rfl

/-- how much more may flow along a step, and where it leads -/
def srRoom (l : List S36) (al : List Int) (x : S86) : Int := if x.f1 = true then rd al x.f0 else wrap64 ((rd_T36 l x.f0).f2 - rd al x.f0)
def srTo (l : List S36) (x : S86) : Int := if x.f1 = true then (rd_T36 l x.f0).f0 else (rd_T36 l x.f0).f1
structure SrSt where
 seen : List Bool
 how : List S86
 q : List Int
def srStep (l : List S36) (al : List Int) (st : SrSt) (x : S86) : Option SrSt :=
 if 0 ≤ x.f0 ∧ x.f0 < (l.length : Int) ∧ x.f0 < (al.length : Int) ∧ 0 ≤ srTo l x ∧ srTo l x < (st.seen.length : Int) ∧ srTo l x < (st.how.length : Int) ∧ st.q.length < 1099511627776 then
  (if srRoom l al x > 0 then (if rdOf false st.seen (srTo l x) = true then some st else some ⟨st.seen.set (srTo l x).toNat true, st.how.set (srTo l x).toNat x, st.q ++ [srTo l x]⟩) else some st)
 else none
def srInner (l : List S36) (al : List Int) : List S86 → SrSt → Option SrSt
 | [], st => some st
 | x :: xs, st => (srStep l al st x).bind (srInner l al xs)
def srLoop (l : List S36) (al : List Int) (at_ : List (List S86)) : Nat → SrSt → Option (List Bool × List S86)
 | 0, _ => none
 | k + 1, ⟨seen, how, []⟩ => some (seen, how)
 | k + 1, ⟨seen, how, v :: q⟩ => if 0 ≤ v ∧ v < (at_.length : Int) then (srInner l al (at_.getD v.toNat []) ⟨seen, how, q⟩).bind (srLoop l al at_ k) else none
def flow_search.f (k : Nat) (n : Int) (l : List S36) (al : List Int) (at_ : List (List S86)) (s : Int) : Option (List Bool × List S86) :=
 if 0 ≤ s ∧ s < n ∧ n ≤ 1099511627776 then srLoop l al at_ k ⟨(List.replicate n.toNat false).set s.toNat true, List.replicate n.toNat z86, [s]⟩ else none

/-- what search has: the network's box, the vertices seen, the steps, the queue -/
def srRes (b g4 : Nat) (n : Int) (A0 : Option Addr) (m c0 g10 k p10 : Nat) (v11 : Value) (A : Option Addr) (c : Nat) (st : SrSt) : List Res :=
 [Box g4 #[.int .i64 n, .slice A0 m c0] 24, Row b Kd.bool 4 (.slice (some ⟨g10, 0, none⟩) k p10) st.seen, Row b k86 86 v11 st.how, RowQ b (Kd.int .i64) 3 (.slice A st.q.length c) st.q]

set_option maxHeartbeats 4000000 in
set_option maxRecDepth 100000 in
theorem flow_search.calls (k : Nat) (a0_0 : Int) (A0_1 : Option Addr) (c0_1 : Nat) (l0_1 : List S36) (A1 : Option Addr) (c1 : Nat) (l1 : List Int) (A2 : Option Addr) (c2 : Nat) (l2 : List (List S86)) (a3 : Int) (r1 : List Bool) (r2 : List S86) (w : World)
  (hr0_1 : Kd.C k36 w A0_1 l0_1.length l0_1) (hc0_1 : l0_1.length ≤ c0_1) (hr1 : Kd.C (Kd.int .i64) w A1 l1.length l1) (hc1 : l1.length ≤ c1) (hr2 : Kd.C (Kd.slice 86 k86) w A2 l2.length l2) (hc2 : l2.length ≤ c2)
  (h : flow_search.f k a0_0 l0_1 l1 l2 a3 = some (r1, r2)) :
  Calls Try.prog 50 #[.agg #[.int .i64 a0_0, .slice A0_1 l0_1.length c0_1], .slice A1 l1.length c1, .slice A2 l2.length c2, .int .i64 a3] w fun e w' => ∃ v0_ v1_ : Value, e = .returned (.tuple #[v0_, v1_]) ∧ Kd.R Kd.bool 4 w' w.heap.size (fun _ => True) v0_ r1 ∧ Kd.R k86 86 w' w.heap.size (fun _ => True) v1_ r2 ∧ Below w.heap.size w w' := by
 have hu24 := Try.underlying24
 have hu86 := Try.underlying86
 have hu36 := Try.underlying36
 have HR0 := Aside0.mk hr0_1
 have HR1 := Aside0.mk hr1
 have HR2 := Aside0.mk hr2
 clear hr0_1 hc0_1 hr1 hc1 hr2 hc2
 unfold flow_search.f at h
 split at h
 ·rename_i hs
  obtain ⟨hs0, hs1, hn⟩ := hs
  obtain ⟨n, rfl⟩ : ∃ n : Nat, a0_0 = (n : Int) := ⟨a0_0.toNat, by omega⟩
  obtain ⟨s, rfl⟩ : ∃ s : Nat, a3 = (s : Int) := ⟨a3.toNat, by omega⟩
  have H := Aside0.mk h
  clear h
  have HL := Aside0.mk (Live.nil w)
  go_enter Try.func50, Try.ntmps50
  go_wp2_with (first
   | ((with_reducible refine gate_dst (N := 4) rfl ?_); refine ev_new HL #[.int .i64 (n : Int), .slice A0_1 l0_1.length c0_1] 24 rfl 4 rfl ?hr ?_; (case hr => first | (go_simp; done) | (go_simp; rfl)); intro g4 w1 G4 HL1; clear HL; have HL := HL1; clear HL1; have b0 : w1.cell? ⟨g4, 0, none⟩ = some (.int .i64 (n : Int)) := (HL.out.box_cell (i := 0) rfl 0).trans rfl)
   | ((with_reducible refine gate_dst (N := 21) rfl ?_); refine ev_make HL Kd.bool 4 false n 21 28 _ _ (.bool false) 1 rfl rfl rfl rfl rfl Try.underlying28 hi4 rfl (by decide) (by decide) rfl (by omega) ?_; intro v10 w2 HL1; clear HL; have HL := HL1; clear HL1; have b1 : w2.cell? ⟨g4, 0, none⟩ = some (.int .i64 (n : Int)) := (HL.out.box_cell (i := 0) rfl 0).trans rfl)
   | ((with_reducible refine gate_dst (N := 24) rfl ?_); refine ev_make HL k86 86 z86 n 24 84 _ _ (.agg #[.int .i64 0, .bool false]) 16 rfl rfl rfl rfl rfl Try.underlying84 hi86 rfl (by decide) (by decide) (k86_mkM _ _ _ z86) (by omega) ?_; intro v11 w3 HL1; clear HL; have HL := HL1; clear HL1;
       (obtain ⟨g10, p10, e10, -, -, -⟩ := Kd.R_form (HL.out.row (i := 1) rfl) (by simp; omega)); (rw [List.length_replicate] at e10); subst e10;
       (have x10 := Kd.R_celln false (HL.out.row (i := 1) rfl) (s : Int) (by omega) (by omega)); (obtain ⟨x10, f10⟩ := x10); (rw [show ((s : Int)).toNat = s from rfl] at x10 f10))
   | ((with_reducible refine gate_store (t := 4) (p := 27) rfl ?_); refine ev_set HL (fun h => h.put (i := 1) (enc := Value.bool) rfl (s : Int) true) 4 27 rfl rfl rfl ?hr ?_; (case hr => first | (go_simp; done) | (go_simp; rfl)); intro w4 HL1; clear HL; have HL := HL1; clear HL1)
   | ((with_reducible refine gate_dst (N := 29) rfl ?_); refine ev_lit HL (Kd.int .i64) 3 (s : Int) [.int .i64 (s : Int)] 29 rfl rfl ?hr rfl ?_; (case hr => first | (go_simp; done) | (go_simp; rfl)); intro A12 c12 w5 HL1; clear HL; have HL := HL1; clear HL1)
   )
  go_loopg [12] k (fun gk v12 wr => ∃ (A : Option Addr) (c : Nat) (st : SrSt), v12 = .slice A st.q.length c ∧ Aside0 (srLoop l0_1 l1 l2 gk st = some (r1, r2)) ∧ Aside0 (Live w wr (srRes w.heap.size g4 (n : Int) A0_1 l0_1.length c0_1 g10 n p10 v11 A c st)))
  case atStart => exact ⟨A12, c12, ⟨_, _, [(s : Int)]⟩, rfl, H, HL⟩
  case round =>
   clear HL H b0 b1 x10 f10 hs0 hs1
   obtain ⟨A, c, st, rfl, H, HL⟩ := hrel
   cases gk with
   | zero => exact absurd H.out (by simp [srLoop])
   | succ g1 =>
    obtain ⟨seen, how, q⟩ := st
    cases q with
    | nil =>
     have H1 := H.out
     simp only [srLoop, Option.some.injEq, Prod.mk.injEq] at H1
     obtain ⟨rfl, rfl⟩ := H1
     go_wp2
     go_ret2
     exact ⟨_, _, rfl, HL.out.row (i := 1) rfl, HL.out.row (i := 2) rfl, HL.out.hb⟩
    | cons v q =>
     have H1 := H.out
     clear H
     simp only [srLoop] at H1
     split at H1
     ·rename_i hv
      obtain ⟨st', hin, hout⟩ := Option.bind_eq_some_iff.1 H1
      have H := Aside0.mk hout
      have HI := Aside0.mk hin
      clear H1 hout hin
      obtain ⟨hv0, hv1⟩ := hv
      obtain ⟨v, rfl⟩ : ∃ m : Nat, v = (m : Int) := ⟨v.toNat, by omega⟩
      obtain ⟨A', c', hcut, HLp⟩ := HL.out.pop (i := 3) rfl Try.underlying33 hi3
      obtain ⟨ad, ea, xq⟩ := Kd.at_int (Kd.Q_reads' (HL.out.rowQ (i := 3) rfl)).2.2 0 (by omega) (by simp)
      subst ea
      rw [show ((0 : Int)).toNat = 0 from rfl, Addr.add_zero', show rd ((v : Int) :: q) 0 = (v : Int) from rfl] at xq
      obtain ⟨ad2, Ay, cy, ea2, xy, hly, HY⟩ := at_rows HR2.out (v : Int) (by omega) hv1
      subst ea2
      replace xy := (HL.out.hb.cell (World.block_lt_of_cell? w _ xy)).trans xy
      rw [show ((v : Int)).toNat = v from rfl] at xy HY hly HI
      generalize l2.getD v [] = ys at xy HY hly HI
      simp only [List.length_cons] at hcut
      have HL2 := Aside0.mk HLp
      clear HL HLp
      have HL := HL2
      clear HL2 hly
      have HY' := Aside0.mk HY
      clear HY
      go_wp2
      go_loopg [12, 43] ys.length (fun gg v12 v43 wr => ∃ (j : Nat) (A : Option Addr) (c : Nat) (st2 : SrSt), v43 = .int .i64 (j : Int) ∧ v12 = .slice A st2.q.length c ∧ Aside0 (ys.length = j + gg) ∧ Aside0 (srInner l0_1 l1 (ys.drop j) st2 = some st') ∧ Aside0 (Live w wr (srRes w.heap.size g4 (n : Int) A0_1 l0_1.length c0_1 g10 n p10 v11 A c st2)))
      case atStart => exact ⟨0, A', c', ⟨_, _, _⟩, rfl, rfl, ⟨by omega⟩, HI, HL⟩
      case round =>
       clear HL HI hcut xq xy
       obtain ⟨j, A, c, st2, rfl, rfl, HK, HI, HL⟩ := hrel
       cases gk with
       | zero =>
        have hj : decide (j < ys.length) = false := decide_eq_false (by have := HK.out; omega)
        have hj2 : decide ((j : Int) < (ys.length : Int)) = false := decide_eq_false (by have := HK.out; omega)
        have hfin : st2 = st' := by
         have h1 := HI.out
         rw [List.drop_of_length_le (by have := HK.out; omega)] at h1
         exact Option.some.inj h1
        subst hfin
        go_wp2
        go_roundg g1
        case measure => omega
        case rel => exact ⟨A, c, st2, rfl, H, HL⟩
       | succ g2 =>
        have hj : decide (j < ys.length) = true := decide_eq_true (by have := HK.out; omega)
        have hjz : (j : Int) < (ys.length : Int) := by have := HK.out; omega
        have hjb : j + 1 < 9223372036854775808 := by have := HK.out; have := HY'.out.2.1; omega
        obtain ⟨ad3, e3, xa, xb⟩ := at_T86 HY'.out (j : Int) (by omega) hjz
        subst e3
        rw [show ((j : Int)).toNat = j from rfl] at xa xb
        have HD := Aside0.mk (show ys.drop j = rd_T86 ys (j : Int) :: ys.drop (j + 1) by
         have hk : j < ys.length := by have := HK.out; omega
         rw [List.drop_eq_getElem_cons hk]; simp [rd_T86, List.getD, hk])
        generalize rd_T86 ys (j : Int) = x at xa xb HD
        have h1 := HI.out
        rw [HD.out] at h1
        obtain ⟨st3, hst, hrest⟩ := Option.bind_eq_some_iff.1 h1
        have HI2 := Aside0.mk hrest
        clear HI HD h1 hrest
        unfold srStep at hst
        split at hst
        ·rename_i hg
         obtain ⟨g1', g2', g3, g4', g5, g6, g7⟩ := hg
         obtain ⟨xf, xback⟩ := x
         simp only at g1' g2' g3 xa xb
         obtain ⟨f, rfl⟩ : ∃ m : Nat, xf = (m : Int) := ⟨xf.toNat, by omega⟩
         obtain ⟨ad4, e4, xc0, xc1, xc2⟩ := at_T36 HR0.out (f : Int) (by omega) g2'
         subst e4
         obtain ⟨ad5, e5, xd⟩ := Kd.at_int HR1.out (f : Int) (by omega) g3
         subst e5
         rw [show ((f : Int)).toNat = f from rfl] at xc0 xc1 xc2 xd
         have HT := Aside0.mk (show srTo l0_1 ⟨(f : Int), xback⟩ = if xback = true then (rd_T36 l0_1 (f : Int)).f0 else (rd_T36 l0_1 (f : Int)).f1 from rfl)
         have HRm := Aside0.mk (show srRoom l0_1 l1 ⟨(f : Int), xback⟩ = if xback = true then rd l1 (f : Int) else wrap64 ((rd_T36 l0_1 (f : Int)).f2 - rd l1 (f : Int)) from rfl)
         generalize hA : rd_T36 l0_1 (f : Int) = arc at xc0 xc1 xc2 HT HRm
         generalize hB : rd l1 (f : Int) = fl at xd HRm
         clear hA hB
         generalize srTo l0_1 ⟨(f : Int), xback⟩ = tt at g4' g5 g6 HT hst
         generalize srRoom l0_1 l1 ⟨(f : Int), xback⟩ = room at HRm hst
         have HS := Aside0.mk hst
         clear hst
         have Y := Aside0.mk (And.intro xc0 (And.intro xc1 (And.intro xc2 xd)))
         replace xa := HL.out.old xa
         replace xb := HL.out.old xb
         clear xc0 xc1 xc2 xd
         have HLT : (f : Int) < (l0_1.length : Int) := g2'
         have HLA : (f : Int) < (l1.length : Int) := g3
         go_upto_region 12 with (first
          | ((with_reducible refine gate_dst (N := 15) rfl ?_); refine ev_new HL #[.int .i64 0, .bool false] 86 rfl 15 rfl ?hr ?_; (case hr => first | (go_simp; done) | (go_simp; rfl)); intro g15 w1 G15 HL1; clear HL; have HL := HL1; clear HL1 xa xb; have f15 := HL.out.box_fz (i := 4) rfl; have b15 := HL.out.box_cell (i := 4) rfl)
          | ((with_reducible refine gate_store (t := 86) (p := 15) rfl ?_); refine ev_set HL (fun h => (h.setbox (i := 4) rfl G15 0 (.int .i64 (f : Int))).setbox (i := 4) rfl G15 1 (.bool xback)) 86 15 rfl rfl rfl ?hr ?_; (case hr => first | (go_simp; done) | (go_simp; rfl)); intro w2 HL1; clear HL f15 b15; have HL := HL1; clear HL1;
              have b0 : w2.cell? ⟨g4, 1, none⟩ = some (.slice (some ad4) l0_1.length c0_1) := (HL.out.box_cell (i := 0) rfl 1).trans rfl; have b15 : w2.cell? ⟨g15, 0, none⟩ = some (.int .i64 (f : Int)) := (HL.out.box_cell (i := 4) rfl 0).trans rfl; have xc0 := HL.out.old Y.out.1; have xc1 := HL.out.old Y.out.2.1; have xc2 := HL.out.old Y.out.2.2.1)
          | ((with_reducible refine gate_dst (N := 16) rfl ?_); refine ev_new HL #[.int .i64 0, .int .i64 0, .int .i64 0] 36 rfl 16 rfl ?hr ?_; (case hr => first | (go_simp; done) | (go_simp; rfl)); intro g16 w3 G16 HL1; clear HL b0 b15 xc0 xc1 xc2; have HL := HL1; clear HL1; have f16 := HL.out.box_fz (i := 5) rfl; have b16 := HL.out.box_cell (i := 5) rfl)
          | ((with_reducible refine gate_store (t := 36) (p := 16) rfl ?_); refine ev_set HL (fun h => ((h.setbox (i := 5) rfl G16 0 (.int .i64 arc.f0)).setbox (i := 5) rfl G16 1 (.int .i64 arc.f1)).setbox (i := 5) rfl G16 2 (.int .i64 arc.f2)) 36 16 rfl rfl rfl ?hr ?_; (case hr => first | (go_simp; done) | (go_simp; rfl)); intro w4 HL1; clear HL f16 b16; have HL := HL1; clear HL1)
          )
         have b15 : w4.cell? ⟨g15, 0, none⟩ = some (.int .i64 (f : Int)) := (HL.out.box_cell (i := 4) rfl 0).trans rfl
         have b15' : w4.cell? ⟨g15, 1, none⟩ = some (.bool xback) := (HL.out.box_cell (i := 4) rfl 1).trans rfl
         have b16 : w4.cell? ⟨g16, 0, none⟩ = some (.int .i64 arc.f0) := (HL.out.box_cell (i := 5) rfl 0).trans rfl
         have b16' : w4.cell? ⟨g16, 1, none⟩ = some (.int .i64 arc.f1) := (HL.out.box_cell (i := 5) rfl 1).trans rfl
         have b16'' : w4.cell? ⟨g16, 2, none⟩ = some (.int .i64 arc.f2) := (HL.out.box_cell (i := 5) rfl 2).trans rfl
         have xd := HL.out.old Y.out.2.2.2
         go_quiet (fail)
         go_upto_if 64 with (fail)
         go_cut [17, 18] from 44 to 92 (fun v17 v18 wc => v17 = .int .i64 tt ∧ v18 = .int .i64 room ∧ Aside0 (Live w wc (srRes w.heap.size g4 (n : Int) (some ad4) l0_1.length c0_1 g10 n p10 v11 A c st2 ++ [Box g15 #[.int .i64 (f : Int), .bool xback] 86, Box g16 #[.int .i64 arc.f0, .int .i64 arc.f1, .int .i64 arc.f2] 36])))
         case first =>
          cases xback with
          | true =>
           have e1 : tt = arc.f0 := HT.out
           have e2 : room = fl := HRm.out
           subst e1 e2
           go_wp2
           go_quiet (fail)
           try go_wp2
           go_meet
           case rel => exact ⟨rfl, rfl, ⟨(HL.out.drewN _).drewN _⟩⟩
          | false =>
           have e1 : tt = arc.f1 := HT.out
           have e2 : room = wrap64 (arc.f2 - fl) := HRm.out
           subst e1 e2
           go_wp2
           go_meet
           case rel => exact ⟨rfl, by simp only [i64_w], ⟨HL.out.drewN _⟩⟩
         case rest =>
          clear HL b15 b15' b16 b16' b16'' xd
          obtain ⟨rfl, rfl, HL⟩ := hcut
          obtain ⟨tn, rfl⟩ : ∃ m : Nat, tt = (m : Int) := ⟨tt.toNat, by omega⟩
          clear HT HRm
          obtain ⟨e10, -, -⟩ := Kd.R_reads' (HL.out.row (i := 1) rfl)
          have h10 : (tn : Int) < (n : Int) := by omega
          clear e10
          obtain ⟨x10, f10⟩ := Kd.R_celln false (HL.out.row (i := 1) rfl) (tn : Int) (by omega) h10
          rw [show ((tn : Int)).toNat = tn from rfl] at x10 f10
          by_cases hroom : room > 0
          ·have d1 : decide (0 < room) = true := decide_eq_true hroom
           cases hseen : rdOf false st2.seen (tn : Int) with
           | true =>
            rw [hseen] at x10
            have HE : st3 = st2 := by
             have := HS.out
             rw [if_pos hroom, hseen, if_pos rfl] at this
             exact (Option.some.inj this).symm
            subst HE
            go_wp2
            go_roundg g2
            case measure => omega
            case rel => exact ⟨j + 1, A, c, _, by go_num, rfl, ⟨by have := HK.out; omega⟩, HI2, ⟨HL.out.drop_last.drop_last⟩⟩
           | false =>
            rw [hseen] at x10
            go_upto_region 16 with (fail)
            have b15 : wc.cell? ⟨g15, 0, none⟩ = some (.int .i64 (f : Int)) := (HL.out.box_cell (i := 4) rfl 0).trans rfl
            have b15' : wc.cell? ⟨g15, 1, none⟩ = some (.bool xback) := (HL.out.box_cell (i := 4) rfl 1).trans rfl
            obtain ⟨g11, p11, e11, -, -, -⟩ := Kd.R_form (HL.out.row (i := 2) rfl) (by omega)
            subst e11
            obtain ⟨e12, -, -⟩ := Kd.R_reads' (HL.out.row (i := 2) rfl)
            have h11 : (tn : Int) < (st2.how.length : Int) := g6
            have y0 : ∃ u, wc.cell? ⟨g11, tn * 2, none⟩ = some u := by
             obtain ⟨ad, e, h0, h1⟩ := at_T86 (Kd.R_reads' (HL.out.row (i := 2) rfl)).2.2 (tn : Int) (by omega) h11
             obtain rfl := Option.some.inj e
             exact ⟨_, by simpa [add_plain] using h0⟩
            have y1 : ∃ u, wc.cell? ⟨g11, tn * 2 + 1, none⟩ = some u := by
             obtain ⟨ad, e, h0, h1⟩ := at_T86 (Kd.R_reads' (HL.out.row (i := 2) rfl)).2.2 (tn : Int) (by omega) h11
             obtain rfl := Option.some.inj e
             exact ⟨_, by simpa [add_plain] using h1⟩
            obtain ⟨z0, y0⟩ := y0
            obtain ⟨z1, y1⟩ := y1
            have f11 : ∀ o, wc.frozen? ⟨g11, o, none⟩ = false := by
             obtain ⟨_, _, e, _, _, cells, hh⟩ := Kd.R_form (HL.out.row (i := 2) rfl) (by omega)
             injection e with e1
             injection e1 with e1
             injection e1 with e1
             subst e1
             exact fun o => blk_frozen hh o
            clear e12
            have n1 : g10 ≠ g11 := HL.out.ne (i := 1) (j := 2) (by decide) rfl rfl has_row has_row
            have n2 : g10 ≠ g15 := HL.out.ne (i := 1) (j := 4) (by decide) rfl rfl has_row (has_box _ _ _)
            have n3 : g11 ≠ g15 := HL.out.ne (i := 2) (j := 4) (by decide) rfl rfl has_row (has_box _ _ _)
            have n1' := n1.symm
            have n2' := n2.symm
            have n3' := n3.symm
            go_region
            have HS2 : st3 = ⟨st2.seen.set tn true, st2.how.set tn ⟨(f : Int), xback⟩, st2.q ++ [(tn : Int)]⟩ := by
             have := HS.out
             rw [if_pos hroom, hseen, if_neg (by decide)] at this
             exact (Option.some.inj this).symm
            have HL3 := Aside0.mk (show Live w ((((wc.setCell ⟨g10, tn, none⟩ (.bool true)).setCell ⟨g11, tn * 2, none⟩ (.int .i64 (f : Int))).setCell ⟨g11, tn * 2 + 1, none⟩ (.bool xback)).drew) _ from ((HL.out.put (i := 1) (enc := Value.bool) rfl (tn : Int) true).seg (i := 2) rfl (tn : Int) (by omega) h11 (⟨(f : Int), xback⟩ : S86) (cs := [.int .i64 (f : Int), .bool xback]) rfl (k86_mkM _ _ _ _)).drew)
            clear HL
            have HL := HL3
            clear HL3 b15 b15' f11 y0 y1 x10 f10 n1 n2 n3 n1' n2' n3'
            generalize ((((wc.setCell ⟨g10, tn, none⟩ (.bool true)).setCell ⟨g11, tn * 2, none⟩ (.int .i64 (f : Int))).setCell ⟨g11, tn * 2 + 1, none⟩ (.bool xback)).drew) = wd at HL ⊢
            go_wp2_with (first
             | ((with_reducible refine gate_builtin (b := .append) (xs := #[.tmp 88, .tmp 90]) rfl ?_); at_builtin; refine ev_appendQ HL (i := 3) rfl (tn : Int) [.int .i64 (tn : Int)] 88 90 33 (.int .i64 0) 8 rfl rfl Try.underlying33 hi3 rfl (by decide) (by decide) rfl rfl rfl (by omega) ?_; intro v12 w5 HL1; clear HL; have HL := HL1; clear HL1; (obtain ⟨A5, c5, e5, -⟩ := Kd.Q_slice (HL.out.rowQ (i := 3) rfl)); subst e5)
             )
            go_roundg g2
            case measure => omega
            case rel => exact ⟨j + 1, A5, c5, st3, by go_num, by rw [HS2]; first | rfl | simp, ⟨by have := HK.out; omega⟩, HI2, ⟨by rw [HS2]; exact HL.out.drop_last.drop_last⟩⟩
          ·have d1 : decide (0 < room) = false := decide_eq_false hroom
           have HE : st3 = st2 := by
            have := HS.out
            rw [if_neg hroom] at this
            exact (Option.some.inj this).symm
           subst HE
           go_wp2
           go_roundg g2
           case measure => omega
           case rel => exact ⟨j + 1, A, c, _, by go_num, rfl, ⟨by have := HK.out; omega⟩, HI2, ⟨HL.out.drop_last.drop_last⟩⟩
        ·cases hst
     ·cases H1
 ·cases h
end Go.Proofs.Ytidomjhihfoabaa.PF
/- flow.greatest: what its call does, as a plain function on lists. -/
namespace Go.Proofs.Ytidomjhihfoabaa.PF
open Go Go.RowKit Go.Lib Go.Proofs.YtidomjhihfoabaaW.PrintWords Go.Proofs.YtidomjhihfoabaaW.PrintLast Go.Proofs.Ytidomjhihfoabaa.Lv
set_option linter.unusedVariables false
set_option linter.unusedSimpArgs false

theorem hi84 : (Try.prog.info? 84).map (fun i => (i.zero, i.size, i.bytes)) = some (some (.slice none 0 0), 1, 24) := by kernel_rfl
def T14 : Bool × List (List Nat × List Nat) := (true, [([], []), ([], []), ([1], [1]), ([], []), ([], []), ([4], [4]), ([3, 5], [3, 5]), ([6], [6]), ([], []), ([8], [8]), ([9], [9]), ([7, 10], [7, 10]), ([0, 2, 0, 1, 2, 3, 4, 5, 6, 7, 8, 9, 10, 11], [0, 2]), ([12, 11, 11, 0, 1, 2, 3, 4, 5, 6, 7, 8, 9, 10, 11], [11, 12])])
def B14 : List Nat := [0, 0, 2, 0, 0, 16, 56, 120, 0, 256, 768, 2040, 4095, 8191]
theorem bits14 : waitsOk T14.2 B14 = true := by kernel_rfl
theorem tab40_5 : rtab .any (opsOf Try.f40 5) = T14 := by kernel_rfl
theorem tab40_6 : rtab .any (opsOf Try.f40 6) = T14 := by kernel_rfl

/-- the reference's steps (their numbers), which the plain part tells beside the program's -/
def rHalf (x : Int) : Int := wrap64 (Int.tdiv x 2)
def xApp (m : Int) : List Int → List Int → Option (List Int)
 | [], al => some al
 | x :: xs, al => if 0 ≤ rHalf x ∧ rHalf x < (al.length : Int) then xApp m xs (al.set (rHalf x).toNat (if Int.tmod x 2 = 0 then wrap64 (rd al (rHalf x) + m) else wrap64 (rd al (rHalf x) - m))) else none
/-- the rows that an arc is put into -/
def gPut {α : Type} (at_ : List (List α)) (v : Int) (x : α) : Option (List (List α)) :=
 if 0 ≤ v ∧ v < (at_.length : Int) ∧ (at_.getD v.toNat []).length < 1099511627776 then some (at_.set v.toNat (at_.getD v.toNat [] ++ [x])) else none
def gAt : Nat → List S36 → List (List S86) → Option (List (List S86))
 | _, [], at_ => some at_
 | i, a :: xs, at_ => (gPut at_ a.f0 (⟨(i : Int), false⟩ : S86)).bind fun at1 => (gPut at1 a.f1 (⟨(i : Int), true⟩ : S86)).bind (gAt (i + 1) xs)
/-- the steps back from a vertex to s, and the least room on them -/
def gPath (l : List S36) (al : List Int) (how : List S86) (s : Int) : Nat → Int → Int → List S86 → Option (Int × List S86)
 | 0, _, _, _ => none
 | k + 1, v, amt, p =>
  if v = s then some (amt, p) else
  if 0 ≤ v ∧ v < (how.length : Int) ∧ 0 ≤ (rd_T86 how v).f0 ∧ (rd_T86 how v).f0 < (l.length : Int) ∧ (rd_T86 how v).f0 < (al.length : Int) ∧ p.length < 1099511627776 then
   gPath l al how s k (if (rd_T86 how v).f1 = true then (rd_T36 l (rd_T86 how v).f0).f1 else (rd_T36 l (rd_T86 how v).f0).f0)
    (if amt < 0 ∨ srRoom l al (rd_T86 how v) < amt then srRoom l al (rd_T86 how v) else amt) (p ++ [rd_T86 how v])
  else none
def gApply (amt : Int) : List S86 → List Int → Option (List Int)
 | [], al => some al
 | x :: xs, al => if 0 ≤ x.f0 ∧ x.f0 < (al.length : Int) then gApply amt xs (al.set x.f0.toNat (if x.f1 = true then wrap64 (rd al x.f0 - amt) else wrap64 (rd al x.f0 + amt))) else none
def gMain (n : Int) (l : List S36) (at_ : List (List S86)) (s t : Int) : Nat → List Int → Int → Option (Int × List Int × List Bool)
 | 0, _, _ => none
 | k + 1, al, value => (flow_search.f k n l al at_ s).bind fun r =>
   if 0 ≤ t ∧ t < (r.1.length : Int) then
    (if rdOf false r.1 t = true then (gPath l al r.2 s k t (-1) []).bind fun q => (gApply q.1 q.2 al).bind fun al2 => gMain n l at_ s t k al2 (wrap64 (value + q.1))
    else some (value, al, r.1))
   else none
def flow_greatest.f (k : Nat) (n : Int) (l : List S36) (s t : Int) : Option (Int × List Int × List Bool) :=
 if 0 < n ∧ n ≤ 1099511627776 ∧ l.length ≤ 1099511627776 then (gAt 0 l (List.replicate n.toNat [])).bind fun at_ => gMain n l at_ s t k (List.replicate l.length 0) 0 else none

theorem srLoop_mono (l : List S36) (al : List Int) (at_ : List (List S86)) : ∀ k st, LeO (srLoop l al at_ k st) (srLoop l al at_ (k + 1) st)
 | 0, _ => fun r h => by simp [srLoop] at h
 | k + 1, ⟨seen, how, []⟩ => fun r h => by simpa [srLoop] using h
 | k + 1, ⟨seen, how, v :: q⟩ => by
  simp only [srLoop]
  exact LeO.ite (LeO.bind (LeO.refl _) (fun _ => srLoop_mono l al at_ k _)) (LeO.refl _)
theorem flow_search.mono : ∀ a0 a1 a2 a3 a4 k, LeO (flow_search.f k a0 a1 a2 a3 a4) (flow_search.f (k + 1) a0 a1 a2 a3 a4) := by
 intro a0 a1 a2 a3 a4 k
 unfold flow_search.f
 exact LeO.ite (srLoop_mono _ _ _ _ _) (LeO.refl _)
theorem gPath_mono (l : List S36) (al : List Int) (how : List S86) (s : Int) : ∀ k v m p, LeO (gPath l al how s k v m p) (gPath l al how s (k + 1) v m p)
 | 0, _, _, _ => fun r h => by simp [gPath] at h
 | k + 1, v, m, p => by
  unfold gPath
  exact LeO.ite (LeO.refl _) (LeO.ite (gPath_mono l al how s k _ _ _) (LeO.refl _))
theorem gMain_mono (n : Int) (l : List S36) (at_ : List (List S86)) (s t : Int) : ∀ k al val, LeO (gMain n l at_ s t k al val) (gMain n l at_ s t (k + 1) al val)
 | 0, _, _ => fun r h => by simp [gMain] at h
 | k + 1, al, val => by
  unfold gMain
  exact LeO.bind (flow_search.mono _ _ _ _ _ _) (fun _ => LeO.ite (LeO.ite (LeO.bind (gPath_mono _ _ _ _ _ _ _ _) (fun _ => LeO.bind (LeO.refl _) (fun _ => gMain_mono n l at_ s t k _ _))) (LeO.refl _)) (LeO.refl _))
theorem flow_greatest.mono : ∀ a0 a1 a2 a3 k, LeO (flow_greatest.f k a0 a1 a2 a3) (flow_greatest.f (k + 1) a0 a1 a2 a3) := by
 intro a0 a1 a2 a3 k
 unfold flow_greatest.f
 exact LeO.ite (LeO.bind (LeO.refl _) (fun _ => gMain_mono _ _ _ _ _ _ _ _)) (LeO.refl _)

set_option maxHeartbeats 8000000 in
set_option maxRecDepth 100000 in
theorem flow_greatest.calls (k : Nat) (a0_0 : Int) (A0_1 : Option Addr) (c0_1 : Nat) (l0_1 : List S36) (a1 a2 : Int) (r1 : Int) (r2 : List Int) (r3 : List Bool) (w : World)
  (hr0_1 : Kd.C k36 w A0_1 l0_1.length l0_1) (hc0_1 : l0_1.length ≤ c0_1)
  (h : flow_greatest.f k a0_0 l0_1 a1 a2 = some (r1, r2, r3)) :
  Calls Try.prog 40 #[.agg #[.int .i64 a0_0, .slice A0_1 l0_1.length c0_1], .int .i64 a1, .int .i64 a2] w fun e w' => ∃ v1_ v2_ : Value, e = .returned (.agg #[.int .i64 r1, v1_, v2_]) ∧ Kd.R (Kd.int .i64) 3 w' w.heap.size (fun _ => True) v1_ r2 ∧ Kd.R Kd.bool 4 w' w.heap.size (fun _ => True) v2_ r3 ∧ Below w.heap.size w w' := by
 have hu24 := Try.underlying24
 have hu86 := Try.underlying86
 have hu36 := Try.underlying36
 have hu39 := Try.underlying39
 have HR0 := Aside0.mk hr0_1
 clear hr0_1
 unfold flow_greatest.f at h
 split at h
 ·rename_i hs
  obtain ⟨hn0, hn, hln⟩ := hs
  obtain ⟨n, rfl⟩ : ∃ n : Nat, a0_0 = (n : Int) := ⟨a0_0.toNat, by omega⟩
  obtain ⟨at2, hat, hmain⟩ := Option.bind_eq_some_iff.1 h
  rw [show ((n : Int)).toNat = n from rfl] at hat
  have HAT := Aside0.mk hat
  have HM := Aside0.mk hmain
  clear h hat hmain
  have HL := Aside0.mk (Live.nil w)
  go_enter Try.func40, Try.ntmps40
  go_wp2_with (first
   | ((with_reducible refine gate_dst (N := 3) rfl ?_); refine ev_new HL #[.int .i64 (n : Int), .slice A0_1 l0_1.length c0_1] 24 rfl 3 rfl ?hr ?_; (case hr => first | (go_simp; done) | (go_simp; rfl)); intro g3 w1 G3 HL1; clear HL; have HL := HL1; clear HL1; have b0 : w1.cell? ⟨g3, 0, none⟩ = some (.int .i64 (n : Int)) := (HL.out.box_cell (i := 0) rfl 0).trans rfl)
   | ((with_reducible refine gate_dst (N := 6) rfl ?_); refine ev_new HL #[.int .i64 0, .slice none 0 0, .slice none 0 0] 39 rfl 6 rfl ?hr ?_; (case hr => first | (go_simp; done) | (go_simp; rfl)); intro g6 w2 G6 HL1; clear HL b0; have HL := HL1; clear HL1; have b0 : w2.cell? ⟨g3, 0, none⟩ = some (.int .i64 (n : Int)) := (HL.out.box_cell (i := 0) rfl 0).trans rfl)
   | ((with_reducible refine gate_dst (N := 23) rfl ?_); refine ev_makeS HL (Kd.slice 86 k86) 84 [] n 23 83 _ _ (.slice none 0 0) 24 rfl rfl rfl rfl rfl Try.underlying83 hi84 rfl (by decide) (by decide) ⟨_, rfl, Kd.R_nil _ _ _ _ _⟩ (by omega) ?_; intro v7 w3 HL1; clear HL b0; have HL := HL1; clear HL1;
       have b1 : w3.cell? ⟨g3, 1, none⟩ = some (.slice A0_1 l0_1.length c0_1) := (HL.out.box_cell (i := 0) rfl 1).trans rfl;
       (obtain ⟨g7, p7, e7, -, -, -⟩ := Kd.S_form (HL.out.rowS (i := 2) rfl) (by simp; omega)); (rw [List.length_replicate] at e7); subst e7)
   )
  go_loopg [27] l0_1.length (fun gk v27 wr => ∃ (j : Nat) (at_ : List (List S86)), v27 = .int .i64 (j : Int) ∧ Aside0 (l0_1.length = j + gk) ∧ Aside0 (gAt j (l0_1.drop j) at_ = some at2 ∧ at_.length = n) ∧ Aside0 (Live w wr [Box g3 #[.int .i64 (n : Int), .slice A0_1 l0_1.length c0_1] 24, Box g6 #[.int .i64 0, .slice none 0 0, .slice none 0 0] 39, RowS w.heap.size (Kd.slice 86 k86) 84 (.slice (some ⟨g7, 0, none⟩) n p7) at_]))
  case atStart => exact ⟨0, _, rfl, ⟨by omega⟩, ⟨HAT.out, by simp⟩, HL⟩
  case round =>
   clear HL HAT b1
   obtain ⟨j, at_, rfl, HK, HAT, HL⟩ := hrel
   cases gk with
   | zero =>
    have hj : decide (j < l0_1.length) = false := decide_eq_false (by have := HK.out; omega)
    have b1 : wr.cell? ⟨g3, 1, none⟩ = some (.slice A0_1 l0_1.length c0_1) := (HL.out.box_cell (i := 0) rfl 1).trans rfl
    have hfin : at_ = at2 := by
     have h1 := HAT.out.1
     rw [List.drop_of_length_le (by have := HK.out; omega)] at h1
     exact Option.some.inj h1
    have hal : at_.length = n := HAT.out.2
    subst hfin
    clear HAT HK
    go_wp2_with (first
     | ((with_reducible refine gate_dst (N := 62) rfl ?_); refine ev_make HL (Kd.int .i64) 3 0 l0_1.length 62 33 _ _ (.int .i64 0) 8 rfl rfl rfl rfl rfl Try.underlying33 hi3 rfl (by decide) (by decide) rfl (by omega) ?_; intro v11 w4 HL1; clear HL b1; have HL := HL1; clear HL1; (obtain ⟨A11, c11, e11⟩ := Kd.R_slice (HL.out.row (i := 3) rfl)); (rw [List.length_replicate] at e11); subst e11)
     | ((with_reducible refine gate_dst (N := 10) rfl ?_); refine ev_new HL #[.int .i64 0, .slice none 0 0, .slice none 0 0] 39 rfl 10 rfl ?hr ?_; (case hr => first | (go_simp; done) | (go_simp; rfl)); intro g10 w5 G10 HL1; clear HL; have HL := HL1; clear HL1; have f10 := HL.out.box_fz (i := 4) rfl; have b10 := HL.out.box_cell (i := 4) rfl)
     | ((with_reducible refine gate_store (t := 39) (p := 10) rfl ?_); refine ev_set HL (fun h => ((h.setbox (i := 4) rfl G10 0 (.int .i64 0)).setbox (i := 4) rfl G10 1 (.slice A11 l0_1.length c11)).setbox (i := 4) rfl G10 2 (.slice none 0 0)) 39 10 rfl rfl rfl ?hr ?_; (case hr => first | (go_simp; done) | (go_simp; rfl)); intro w6 HL1; clear HL f10 b10; have HL := HL1; clear HL1)
     )
    simp only [Act.put, List.setIfInBounds_toArray, List.set_cons_zero, List.set_cons_succ]
    go_loopg [] k (fun gk wr => ∃ (al : List Int) (val : Int), Aside0 (gMain (n : Int) l0_1 at_ a1 a2 gk al val = some (r1, r2, r3)) ∧ Aside0 (Live w wr [Box g3 #[.int .i64 (n : Int), .slice A0_1 l0_1.length c0_1] 24, Box g6 #[.int .i64 0, .slice none 0 0, .slice none 0 0] 39, RowS w.heap.size (Kd.slice 86 k86) 84 (.slice (some ⟨g7, 0, none⟩) n p7) at_, Row w.heap.size (Kd.int .i64) 3 (.slice A11 l0_1.length c11) al, Box g10 #[.int .i64 val, .slice A11 l0_1.length c11, .slice none 0 0] 39]))
    case atStart => exact ⟨_, _, HM, HL⟩
    case round =>
     clear HL HM
     obtain ⟨al, val, HM, HL⟩ := hrel
     cases gk with
     | zero => exact absurd HM.out (by simp [gMain])
     | succ g1 =>
      obtain ⟨⟨seen, how⟩, hse, hrest⟩ := Option.bind_eq_some_iff.1 HM.out
      have HRest := Aside0.mk hrest
      have HSE := Aside0.mk hse
      clear HM hrest hse
      have hll : l0_1.length = al.length := (Kd.R_reads' (HL.out.row (i := 3) rfl)).1
      have b0 : wr.cell? ⟨g3, 0, none⟩ = some (.int .i64 (n : Int)) := (HL.out.box_cell (i := 0) rfl 0).trans rfl
      have b1 : wr.cell? ⟨g3, 1, none⟩ = some (.slice A0_1 l0_1.length c0_1) := (HL.out.box_cell (i := 0) rfl 1).trans rfl
      have b10 : wr.cell? ⟨g10, 1, none⟩ = some (.slice A11 l0_1.length c11) := (HL.out.box_cell (i := 4) rfl 1).trans rfl
      have HC := flow_search.calls g1 (n : Int) A0_1 c0_1 l0_1 A11 c11 al (some ⟨g7, 0, none⟩) p7 at_ a1 seen how wr (Kd.C_below HR0.out HL.out.hb) hc0_1 (Kd.R_reads' (HL.out.row (i := 3) rfl)).2.2 (by have := (Kd.R_reads' (HL.out.row (i := 3) rfl)).2.1; omega) (Kd.S_reads' (HL.out.rowS (i := 2) rfl)).2.2 (by have := (Kd.S_reads' (HL.out.rowS (i := 2) rfl)).2.1; omega) HSE.out
      rw [← hll, hal] at HC
      have HLL := Aside0.mk hll
      have HAL := Aside0.mk hal
      clear hll hal
      have h1 := HRest.out
      clear HRest
      simp only at h1
      split at h1
      ·rename_i ht
       obtain ⟨ht0, ht1⟩ := ht
       obtain ⟨tt, rfl⟩ : ∃ m : Nat, a2 = (m : Int) := ⟨a2.toNat, by omega⟩
       have HRest := Aside0.mk h1
       clear h1
       have HCall := Aside0.mk HC
       clear HC HSE
       go_upto_if 77 with ((with_reducible refine gate_callee (f := 50) rfl ?_); refine goesL_ (some 70) rfl rfl Try.func50 (by kernel_rfl) rfl #[.agg #[.int .i64 (n : Int), .slice A0_1 l0_1.length c0_1], .slice A11 l0_1.length c11, .slice (some ⟨g7, 0, none⟩) n p7, .int .i64 a1] rfl (by (try simp only [List.map_toArray, List.map_cons, List.map_nil]); first | done | rfl) ?_; refine HCall.out.mono ?_; rintro e w2 ⟨v0, v1, rfl, ho0, ho1, hb⟩; refine ⟨_, rfl, ?_⟩; have HL1 := Aside0.mk (HL.out.add2 ho0 ho1 (by decide) hb); clear HL b0 b1 b10 ho0 ho1 hb HCall; have HL := HL1; clear HL1; (obtain ⟨g11, p11, e11, -, -, -⟩ := Kd.R_form (HL.out.row (i := 5) rfl) (by omega)); subst e11; (obtain ⟨A12, c12, e12⟩ := Kd.R_slice (HL.out.row (i := 6) rfl)); subst e12; (obtain ⟨x11, -⟩ := Kd.R_celln false (HL.out.row (i := 5) rfl) (tt : Int) (by omega) ht1); (rw [show ((tt : Int)).toNat = tt from rfl] at x11))
       cases hseen : rdOf false seen (tt : Int) with
       | false =>
        rw [hseen] at x11
        have h1 := HRest.out
        rw [hseen, if_neg (by decide)] at h1
        simp only [Option.some.injEq, Prod.mk.injEq] at h1
        obtain ⟨rfl, rfl, rfl⟩ := h1
        clear HRest hseen
        have f10 := HL.out.box_fz (i := 4) rfl
        have b10 := HL.out.box_cell (i := 4) rfl
        have f6 := HL.out.box_fz (i := 1) rfl
        go_wp2_with (first
         | ((with_reducible refine gate_store (t := 28) (p := 79) rfl ?_); refine ev_set HL (fun h => h.setbox (i := 4) rfl G10 2 (.slice (some ⟨g11, 0, none⟩) seen.length p11)) 28 79 rfl rfl rfl ?hr ?_; (case hr => first | (go_simp; done) | (go_simp; rfl)); intro w3 HL1; clear HL f10 b10 f6 x11; have HL := HL1; clear HL1; have b10 : w3.cell? ⟨g10, 0, none⟩ = some (.int .i64 val) := (HL.out.box_cell (i := 4) rfl 0).trans rfl; have b11 : w3.cell? ⟨g10, 1, none⟩ = some (.slice A11 l0_1.length c11) := (HL.out.box_cell (i := 4) rfl 1).trans rfl; have b12 : w3.cell? ⟨g10, 2, none⟩ = some (.slice (some ⟨g11, 0, none⟩) seen.length p11) := (HL.out.box_cell (i := 4) rfl 2).trans rfl; have f6 := HL.out.box_fz (i := 1) rfl; have b6 := HL.out.box_cell (i := 1) rfl)
         | ((with_reducible refine gate_store (t := 39) (p := 6) rfl ?_); refine ev_set HL (fun h => ((h.setbox (i := 1) rfl G6 0 (.int .i64 val)).setbox (i := 1) rfl G6 1 (.slice A11 l0_1.length c11)).setbox (i := 1) rfl G6 2 (.slice (some ⟨g11, 0, none⟩) seen.length p11)) 39 6 rfl rfl rfl ?hr ?_; (case hr => first | (go_simp; done) | (go_simp; rfl)); intro w4 HL1; clear HL b10 b11 b12 f6 b6; have HL := HL1; clear HL1)
         )
        refine bodyPost_ret (results_cell_row rfl _ _ g6 39 #[.int .i64 val, .slice A11 l0_1.length c11, .slice (some ⟨g11, 0, none⟩) seen.length p11] (0, 0) _ rfl (HL.out.box (i := 1) rfl) Try.underlying39 rfl (by kernel_rfl)) rfl ?_
        exact ⟨_, _, rfl, HL.out.row (i := 3) rfl, HL.out.row (i := 5) rfl, HL.out.hb⟩
       | true =>
        rw [hseen] at x11
        have h1 := HRest.out
        rw [hseen, if_pos rfl] at h1
        obtain ⟨⟨amt, p⟩, hpa, h2⟩ := Option.bind_eq_some_iff.1 h1
        obtain ⟨al2, hap, h3⟩ := Option.bind_eq_some_iff.1 h2
        have HPa := Aside0.mk hpa
        have HAp := Aside0.mk hap
        have HM := Aside0.mk h3
        clear HRest hseen h1 h2 hpa hap h3
        have HL1 := Aside0.mk (HL.out.add_nil k86 86)
        clear HL
        have HL := HL1
        clear HL1
        go_wp2
        go_loopg [13, 14, 15] g1 (fun gk v13 v14 v15 wr => ∃ (A13 : Option Addr) (c13 : Nat) (m v : Int) (q : List S86), v13 = .slice A13 q.length c13 ∧ v14 = .int .i64 m ∧ v15 = .int .i64 v ∧ Aside0 (gPath l0_1 al how a1 gk v m q = some (amt, p)) ∧ Aside0 (Live w wr [Box g3 #[.int .i64 (n : Int), .slice A0_1 l0_1.length c0_1] 24, Box g6 #[.int .i64 0, .slice none 0 0, .slice none 0 0] 39, RowS w.heap.size (Kd.slice 86 k86) 84 (.slice (some ⟨g7, 0, none⟩) n p7) at_, Row w.heap.size (Kd.int .i64) 3 (.slice A11 l0_1.length c11) al, Box g10 #[.int .i64 val, .slice A11 l0_1.length c11, .slice none 0 0] 39, Row w.heap.size Kd.bool 4 (.slice (some ⟨g11, 0, none⟩) seen.length p11) seen, Row w.heap.size k86 86 (.slice A12 how.length c12) how, Row w.heap.size k86 86 (.slice A13 q.length c13) q]))
        case atStart => exact ⟨none, 0, _, _, [], rfl, rfl, rfl, HPa, HL⟩
        case round =>
         clear HL HPa x11
         obtain ⟨A13, c13, m, v, q, rfl, rfl, rfl, HPa, HL⟩ := hrel
         cases gk with
         | zero => exact absurd HPa.out (by simp [gPath])
         | succ g2 =>
          have h1 := HPa.out
          clear HPa
          simp only [gPath] at h1
          split at h1
          ·rename_i hv
           subst hv
           simp only [Option.some.injEq, Prod.mk.injEq] at h1
           obtain ⟨rfl, rfl⟩ := h1
           go_wp2
           go_loopg [130] q.length (fun gk v130 wr => ∃ (j : Nat) (al1 : List Int), v130 = .int .i64 (j : Int) ∧ Aside0 (q.length = j + gk) ∧ Aside0 (gApply m (q.drop j) al1 = some al2) ∧ Aside0 (Live w wr [Box g3 #[.int .i64 (n : Int), .slice A0_1 l0_1.length c0_1] 24, Box g6 #[.int .i64 0, .slice none 0 0, .slice none 0 0] 39, RowS w.heap.size (Kd.slice 86 k86) 84 (.slice (some ⟨g7, 0, none⟩) n p7) at_, Row w.heap.size (Kd.int .i64) 3 (.slice A11 l0_1.length c11) al1, Box g10 #[.int .i64 val, .slice A11 l0_1.length c11, .slice none 0 0] 39, Row w.heap.size Kd.bool 4 (.slice (some ⟨g11, 0, none⟩) seen.length p11) seen, Row w.heap.size k86 86 (.slice A12 how.length c12) how, Row w.heap.size k86 86 (.slice A13 q.length c13) q]))
           case atStart => exact ⟨0, al, rfl, ⟨by omega⟩, HAp, HL⟩
           case round =>
            clear HL HAp HLL
            obtain ⟨j, al1, rfl, HK, HAp, HL⟩ := hrel
            cases gk with
            | zero =>
             have hj : decide (j < q.length) = false := decide_eq_false (by have := HK.out; omega)
             have hfin : al1 = al2 := by
              have h1 := HAp.out
              rw [List.drop_of_length_le (by have := HK.out; omega)] at h1
              exact Option.some.inj h1
             subst hfin
             clear HAp HK
             have f10 := HL.out.box_fz (i := 4) rfl
             have b10 := HL.out.box_cell (i := 4) rfl
             go_wp2_with (first
              | ((with_reducible refine gate_store (t := 3) (p := 159) rfl ?_); refine ev_set HL (fun h => h.setbox (i := 4) rfl G10 0 (.int .i64 (wrap64 (val + m)))) 3 159 rfl rfl rfl ?hr ?_; (case hr => first | (go_simp; done) | (go_simp; rfl)); intro w3 HL1; clear HL f10 b10; have HL := HL1; clear HL1)
              )
             go_roundg g1
             case measure => omega
             case rel => exact ⟨al1, _, HM, ⟨HL.out.drop_last.drop_last.drop_last⟩⟩
            | succ g3' =>
             have hj : decide (j < q.length) = true := decide_eq_true (by have := HK.out; omega)
             have hjz : (j : Int) < (q.length : Int) := by have := HK.out; omega
             have hjb : j + 1 < 9223372036854775808 := by have := HK.out; have := (Kd.R_reads' (HL.out.row (i := 7) rfl)).2.2.2.1; omega
             obtain ⟨ad3, e3, xa, xb⟩ := at_T86 (Kd.R_reads' (HL.out.row (i := 7) rfl)).2.2 (j : Int) (by omega) hjz
             subst e3
             rw [show ((j : Int)).toNat = j from rfl] at xa xb
             have HD := Aside0.mk (show q.drop j = rd_T86 q (j : Int) :: q.drop (j + 1) by
              have hk : j < q.length := by omega
              rw [List.drop_eq_getElem_cons hk]; simp [rd_T86, List.getD, hk])
             generalize rd_T86 q (j : Int) = x at xa xb HD
             have h1 := HAp.out
             rw [HD.out] at h1
             simp only [gApply] at h1
             clear HAp HD
             split at h1
             ·rename_i hg
              obtain ⟨y0, y1⟩ := hg
              obtain ⟨xf, xback⟩ := x
              simp only at y0 y1 xa xb h1
              obtain ⟨f, rfl⟩ : ∃ m : Nat, xf = (m : Int) := ⟨xf.toNat, by omega⟩
              rw [show ((f : Int)).toNat = f from rfl] at h1
              have HAp := Aside0.mk h1
              clear h1
              have b10 : wr.cell? ⟨g10, 1, none⟩ = some (.slice A11 l0_1.length c11) := (HL.out.box_cell (i := 4) rfl 1).trans rfl
              obtain ⟨ga, pa, ea, -, -, -⟩ := Kd.R_form (HL.out.row (i := 3) rfl) (by omega)
              injection ea with ea1 ea2 ea3
              subst ea1 ea3
              have HLE := Aside0.mk ea2
              clear ea2
              have HLF : (f : Int) < (l0_1.length : Int) := by have := HLE.out; omega
              obtain ⟨fl, HFL⟩ : ∃ fl, Aside0 (rd al1 (f : Int) = fl) := ⟨_, ⟨rfl⟩⟩
              rw [HFL.out] at HAp
              go_upto_region 30 with (first
               | ((with_reducible refine gate_dst (N := 20) rfl ?_); refine ev_new HL #[.int .i64 0, .bool false] 86 rfl 20 rfl ?hr ?_; (case hr => first | (go_simp; done) | (go_simp; rfl)); intro g20 w9 G20 HL1; clear HL xa xb b10; have HL := HL1; clear HL1; have f20 := HL.out.box_fz (i := 8) rfl; have b20 := HL.out.box_cell (i := 8) rfl)
               | ((with_reducible refine gate_store (t := 86) (p := 20) rfl ?_); refine ev_set HL (fun h => (h.setbox (i := 8) rfl G20 0 (.int .i64 (f : Int))).setbox (i := 8) rfl G20 1 (.bool xback)) 86 20 rfl rfl rfl ?hr ?_; (case hr => first | (go_simp; done) | (go_simp; rfl)); intro w10 HL1; clear HL f20 b20; have HL := HL1; clear HL1)
               )
              have b20 : w10.cell? ⟨g20, 0, none⟩ = some (.int .i64 (f : Int)) := (HL.out.box_cell (i := 8) rfl 0).trans rfl
              have b20' : w10.cell? ⟨g20, 1, none⟩ = some (.bool xback) := (HL.out.box_cell (i := 8) rfl 1).trans rfl
              have b10 : w10.cell? ⟨g10, 1, none⟩ = some (.slice (some ⟨ga, 0, none⟩) l0_1.length c11) := (HL.out.box_cell (i := 4) rfl 1).trans rfl
              obtain ⟨xd, fd⟩ := Kd.R_celln 0 (HL.out.row (i := 3) rfl) (f : Int) (by omega) HLF
              rw [show ((f : Int)).toNat = f from rfl] at xd fd
              replace xd : w10.cell? ⟨ga, f, none⟩ = some (.int .i64 fl) := xd.trans (congrArg (fun z => some (Value.int .i64 z)) HFL.out)
              cases xback with
              | true =>
               replace HAp := Aside0.mk (show gApply m (q.drop (j + 1)) (al1.set f (wrap64 (fl - m))) = some al2 from HAp.out)
               go_wp2_with (first
                | ((with_reducible refine gate_store (t := 3) (p := 144) rfl ?_); refine ev_set HL (fun h => h.put (i := 3) (enc := Value.int .i64) rfl (f : Int) (wrap64 (fl - m))) 3 144 rfl rfl rfl ?hr ?_; (case hr => first | (go_simp; done) | (go_simp; rfl)); intro w11 HL1; clear HL xd fd b10 b20 b20'; have HL := HL1; clear HL1)
                )
               go_roundg g3'
               case measure => omega
               case rel => exact ⟨j + 1, _, by go_num, ⟨by have := HK.out; omega⟩, HAp, ⟨HL.out.drop_last⟩⟩
              | false =>
               replace HAp := Aside0.mk (show gApply m (q.drop (j + 1)) (al1.set f (wrap64 (fl + m))) = some al2 from HAp.out)
               go_wp2_with (first
                | ((with_reducible refine gate_store (t := 3) (p := 153) rfl ?_); refine ev_set HL (fun h => h.put (i := 3) (enc := Value.int .i64) rfl (f : Int) (wrap64 (fl + m))) 3 153 rfl rfl rfl ?hr ?_; (case hr => first | (go_simp; done) | (go_simp; rfl)); intro w11 HL1; clear HL xd fd b10 b20 b20'; have HL := HL1; clear HL1)
                )
               go_roundg g3'
               case measure => omega
               case rel => exact ⟨j + 1, _, by go_num, ⟨by have := HK.out; omega⟩, HAp, ⟨HL.out.drop_last⟩⟩
             ·cases h1
          ·rename_i hv
           have d1 : (v != a1) = true := bne_iff_ne.2 hv
           split at h1
           ·rename_i hg
            obtain ⟨y0, y1, y2, y3, y4, y5⟩ := hg
            obtain ⟨v, rfl⟩ : ∃ m : Nat, v = (m : Int) := ⟨v.toNat, by omega⟩
            obtain ⟨ad3, e3, xa, xb⟩ := at_T86 (Kd.R_reads' (HL.out.row (i := 6) rfl)).2.2 (v : Int) (by omega) y1
            subst e3
            rw [show ((v : Int)).toNat = v from rfl] at xa xb
            have HRm0 := Aside0.mk (show srRoom l0_1 al (rd_T86 how (v : Int)) = if (rd_T86 how (v : Int)).f1 = true then rd al (rd_T86 how (v : Int)).f0 else wrap64 ((rd_T36 l0_1 (rd_T86 how (v : Int)).f0).f2 - rd al (rd_T86 how (v : Int)).f0) from rfl)
            generalize srRoom l0_1 al (rd_T86 how (v : Int)) = room at h1 HRm0
            generalize rd_T86 how (v : Int) = x at xa xb h1 HRm0 y2 y3 y4
            obtain ⟨xf, xback⟩ := x
            simp only at y2 y3 y4 xa xb h1
            obtain ⟨f, rfl⟩ : ∃ m : Nat, xf = (m : Int) := ⟨xf.toNat, by omega⟩
            obtain ⟨ad4, e4, xc0, xc1, xc2⟩ := at_T36 HR0.out (f : Int) (by omega) y3
            subst e4
            obtain ⟨ad5, e5, xd⟩ := Kd.at_int (Kd.R_reads' (HL.out.row (i := 3) rfl)).2.2 (f : Int) (by omega) y4
            subst e5
            rw [show ((f : Int)).toNat = f from rfl] at xc0 xc1 xc2 xd
            have HRm := Aside0.mk (show room = if xback = true then rd al (f : Int) else wrap64 ((rd_T36 l0_1 (f : Int)).f2 - rd al (f : Int)) from HRm0.out)
            clear HRm0
            generalize rd_T36 l0_1 (f : Int) = arc at xc0 xc1 xc2 h1 HRm
            have HLA : (f : Int) < (l0_1.length : Int) := y3
            obtain ⟨fl, HFL⟩ : ∃ fl, Aside0 (rd al (f : Int) = fl) := ⟨_, ⟨rfl⟩⟩
            rw [HFL.out] at xd HRm
            have HPa := Aside0.mk h1
            have Y := Aside0.mk (And.intro xc0 (And.intro xc1 xc2))
            have YD := Aside0.mk xd
            clear h1 xc0 xc1 xc2 xd hv
            go_upto_region 19 with (first
             | ((with_reducible refine gate_dst (N := 16) rfl ?_); refine ev_new HL #[.int .i64 0, .bool false] 86 rfl 16 rfl ?hr ?_; (case hr => first | (go_simp; done) | (go_simp; rfl)); intro g16 w4 G16 HL1; clear HL xa xb; have HL := HL1; clear HL1; have f16 := HL.out.box_fz (i := 8) rfl; have b16 := HL.out.box_cell (i := 8) rfl)
             | ((with_reducible refine gate_store (t := 86) (p := 16) rfl ?_); refine ev_set HL (fun h => (h.setbox (i := 8) rfl G16 0 (.int .i64 (f : Int))).setbox (i := 8) rfl G16 1 (.bool xback)) 86 16 rfl rfl rfl ?hr ?_; (case hr => first | (go_simp; done) | (go_simp; rfl)); intro w5 HL1; clear HL f16 b16; have HL := HL1; clear HL1;
                 have b0 : w5.cell? ⟨g3, 1, none⟩ = some (.slice (some ad4) l0_1.length c0_1) := (HL.out.box_cell (i := 0) rfl 1).trans rfl; have b16 : w5.cell? ⟨g16, 0, none⟩ = some (.int .i64 (f : Int)) := (HL.out.box_cell (i := 8) rfl 0).trans rfl; have xc0 := HL.out.old Y.out.1; have xc1 := HL.out.old Y.out.2.1; have xc2 := HL.out.old Y.out.2.2)
             | ((with_reducible refine gate_dst (N := 17) rfl ?_); refine ev_new HL #[.int .i64 0, .int .i64 0, .int .i64 0] 36 rfl 17 rfl ?hr ?_; (case hr => first | (go_simp; done) | (go_simp; rfl)); intro g17 w6 G17 HL1; clear HL b0 b16 xc0 xc1 xc2; have HL := HL1; clear HL1; have f17 := HL.out.box_fz (i := 9) rfl; have b17 := HL.out.box_cell (i := 9) rfl)
             | ((with_reducible refine gate_store (t := 36) (p := 17) rfl ?_); refine ev_set HL (fun h => ((h.setbox (i := 9) rfl G17 0 (.int .i64 arc.f0)).setbox (i := 9) rfl G17 1 (.int .i64 arc.f1)).setbox (i := 9) rfl G17 2 (.int .i64 arc.f2)) 36 17 rfl rfl rfl ?hr ?_; (case hr => first | (go_simp; done) | (go_simp; rfl)); intro w7 HL1; clear HL f17 b17; have HL := HL1; clear HL1)
             )
            have b16 : w7.cell? ⟨g16, 0, none⟩ = some (.int .i64 (f : Int)) := (HL.out.box_cell (i := 8) rfl 0).trans rfl
            have b16' : w7.cell? ⟨g16, 1, none⟩ = some (.bool xback) := (HL.out.box_cell (i := 8) rfl 1).trans rfl
            have b17 : w7.cell? ⟨g17, 0, none⟩ = some (.int .i64 arc.f0) := (HL.out.box_cell (i := 9) rfl 0).trans rfl
            have b17' : w7.cell? ⟨g17, 1, none⟩ = some (.int .i64 arc.f1) := (HL.out.box_cell (i := 9) rfl 1).trans rfl
            have b17'' : w7.cell? ⟨g17, 2, none⟩ = some (.int .i64 arc.f2) := (HL.out.box_cell (i := 9) rfl 2).trans rfl
            have b10 : w7.cell? ⟨g10, 1, none⟩ = some (.slice (some ad5) l0_1.length c11) := (HL.out.box_cell (i := 4) rfl 1).trans rfl
            have xd : w7.cell? (ad5.add f) = some (.int .i64 fl) := by
             obtain ⟨ad, e, h⟩ := Kd.at_int (Kd.R_reads' (HL.out.row (i := 3) rfl)).2.2 (f : Int) (by omega) y4
             obtain rfl := Option.some.inj e
             rw [show ((f : Int)).toNat = f from rfl] at h
             rw [h]; exact congrArg (fun z => some (Value.int .i64 z)) HFL.out
            obtain ⟨tt, HT⟩ : ∃ tt : Int, Aside0 ((if xback = true then arc.f1 else arc.f0) = tt) := ⟨_, ⟨rfl⟩⟩
            obtain ⟨bb, HBB⟩ : ∃ bb : Bool, Aside0 (decide (m < 0 ∨ room < m) = bb) := ⟨_, ⟨rfl⟩⟩
            replace HPa := Aside0.mk (show gPath l0_1 al how a1 g2 tt (if bb = true then room else m) (q ++ [⟨(f : Int), xback⟩]) = some (amt, p) by
             have h := HPa.out
             rw [HT.out] at h
             rw [← h, ← HBB.out]; simp only [decide_eq_true_eq])
            go_quiet (fail)
            go_upto_if 107 with (fail)
            go_cut [15, 18] from 82 to 127 (fun v15 v18 wc => v15 = .int .i64 tt ∧ v18 = .int .i64 room ∧ Aside0 (Live w wc [Box g3 #[.int .i64 (n : Int), .slice (some ad4) l0_1.length c0_1] 24, Box g6 #[.int .i64 0, .slice none 0 0, .slice none 0 0] 39, RowS w.heap.size (Kd.slice 86 k86) 84 (.slice (some ⟨g7, 0, none⟩) n p7) at_, Row w.heap.size (Kd.int .i64) 3 (.slice (some ad5) l0_1.length c11) al, Box g10 #[.int .i64 val, .slice (some ad5) l0_1.length c11, .slice none 0 0] 39, Row w.heap.size Kd.bool 4 (.slice (some ⟨g11, 0, none⟩) seen.length p11) seen, Row w.heap.size k86 86 (.slice (some ad3) how.length c12) how, Row w.heap.size k86 86 (.slice A13 q.length c13) q, Box g16 #[.int .i64 (f : Int), .bool xback] 86, Box g17 #[.int .i64 arc.f0, .int .i64 arc.f1, .int .i64 arc.f2] 36]))
            case first =>
             cases xback with
             | true =>
              have e1 : arc.f1 = tt := HT.out
              have e2 : room = fl := HRm.out
              subst e1 e2
              go_wp2
              go_meet
              case rel => exact ⟨rfl, rfl, ⟨HL.out.drewN _⟩⟩
             | false =>
              have e1 : arc.f0 = tt := HT.out
              have e2 : room = wrap64 (arc.f2 - fl) := HRm.out
              subst e1 e2
              go_wp2
              go_meet
              case rel => exact ⟨rfl, by simp only [i64_w], ⟨HL.out.drewN _⟩⟩
            case rest =>
             clear HL b16 b16' b17 b17' b17'' b10 xd
             obtain ⟨rfl, rfl, HL⟩ := hcut
             clear HT HRm
             go_upto_region 24 with (fail)
             go_cut [122] from 116 to 122 (fun v122 wd => v122 = .bool bb ∧ Aside0 (Live w wd [Box g3 #[.int .i64 (n : Int), .slice (some ad4) l0_1.length c0_1] 24, Box g6 #[.int .i64 0, .slice none 0 0, .slice none 0 0] 39, RowS w.heap.size (Kd.slice 86 k86) 84 (.slice (some ⟨g7, 0, none⟩) n p7) at_, Row w.heap.size (Kd.int .i64) 3 (.slice (some ad5) l0_1.length c11) al, Box g10 #[.int .i64 val, .slice (some ad5) l0_1.length c11, .slice none 0 0] 39, Row w.heap.size Kd.bool 4 (.slice (some ⟨g11, 0, none⟩) seen.length p11) seen, Row w.heap.size k86 86 (.slice (some ad3) how.length c12) how, Row w.heap.size k86 86 (.slice A13 q.length c13) q, Box g16 #[.int .i64 (f : Int), .bool xback] 86, Box g17 #[.int .i64 arc.f0, .int .i64 arc.f1, .int .i64 arc.f2] 36]))
             case first =>
              by_cases hm : m < 0
              ·have d2 : decide (m < 0) = true := decide_eq_true hm
               have e3 : bb = true := by rw [← HBB.out]; exact decide_eq_true (.inl hm)
               subst e3
               go_wp2
               go_meet
               case rel => exact ⟨rfl, HL⟩
              ·have d2 : decide (m < 0) = false := decide_eq_false hm
               have e3 : bb = decide (room < m) := by rw [← HBB.out]; simp [hm]
               subst e3
               go_wp2
               go_meet
               case rel => exact ⟨rfl, HL⟩
             case rest =>
              clear HL
              obtain ⟨rfl, HL⟩ := hcut
              clear HBB
              cases bb with
              | true =>
               replace HPa := Aside0.mk (show gPath l0_1 al how a1 g2 tt room (q ++ [⟨(f : Int), xback⟩]) = some (amt, p) from HPa.out)
               have b16 : wc.cell? ⟨g16, 0, none⟩ = some (.int .i64 (f : Int)) := (HL.out.box_cell (i := 8) rfl 0).trans rfl
               have b16' : wc.cell? ⟨g16, 1, none⟩ = some (.bool xback) := (HL.out.box_cell (i := 8) rfl 1).trans rfl
               go_wp2_with (first
                | ((with_reducible refine gate_builtin (b := .append) (xs := #[.tmp 124, .tmp 126]) rfl ?_); at_builtin; refine ev_append HL (i := 7) rfl (⟨(f : Int), xback⟩ : S86) [.int .i64 (f : Int), .bool xback] 124 126 84 (.agg #[.int .i64 0, .bool false]) 16 rfl rfl Try.underlying84 hi86 rfl (by decide) (by decide) rfl rfl (k86_mkM _ _ _ _) (by omega) ?_; intro v13 w8 HL1; clear HL b16 b16'; have HL := HL1; clear HL1; (obtain ⟨A14, c14, e14⟩ := Kd.R_slice (HL.out.row (i := 7) rfl)); subst e14)
                )
               go_roundg g2
               case measure => omega
               case rel => exact ⟨A14, c14, _, _, _, by rw [List.length_append]; rfl, rfl, rfl, HPa, ⟨HL.out.drop_last.drop_last⟩⟩
              | false =>
               replace HPa := Aside0.mk (show gPath l0_1 al how a1 g2 tt m (q ++ [⟨(f : Int), xback⟩]) = some (amt, p) from HPa.out)
               have b16 : wc.cell? ⟨g16, 0, none⟩ = some (.int .i64 (f : Int)) := (HL.out.box_cell (i := 8) rfl 0).trans rfl
               have b16' : wc.cell? ⟨g16, 1, none⟩ = some (.bool xback) := (HL.out.box_cell (i := 8) rfl 1).trans rfl
               go_wp2_with (first
                | ((with_reducible refine gate_builtin (b := .append) (xs := #[.tmp 124, .tmp 126]) rfl ?_); at_builtin; refine ev_append HL (i := 7) rfl (⟨(f : Int), xback⟩ : S86) [.int .i64 (f : Int), .bool xback] 124 126 84 (.agg #[.int .i64 0, .bool false]) 16 rfl rfl Try.underlying84 hi86 rfl (by decide) (by decide) rfl rfl (k86_mkM _ _ _ _) (by omega) ?_; intro v13 w8 HL1; clear HL b16 b16'; have HL := HL1; clear HL1; (obtain ⟨A14, c14, e14⟩ := Kd.R_slice (HL.out.row (i := 7) rfl)); subst e14)
                )
               go_roundg g2
               case measure => omega
               case rel => exact ⟨A14, c14, _, _, _, by rw [List.length_append]; rfl, rfl, rfl, HPa, ⟨HL.out.drop_last.drop_last⟩⟩
           ·cases h1
      ·cases h1
   | succ g2 =>
    have hj : decide (j < l0_1.length) = true := decide_eq_true (by have := HK.out; omega)
    have hjz : (j : Int) < (l0_1.length : Int) := by have := HK.out; omega
    have hjb : j + 1 < 9223372036854775808 := by omega
    obtain ⟨ad3, e3, xa0, xa1, xa2⟩ := at_T36 HR0.out (j : Int) (by omega) hjz
    subst e3
    rw [show ((j : Int)).toNat = j from rfl] at xa0 xa1 xa2
    have HD := Aside0.mk (show l0_1.drop j = rd_T36 l0_1 (j : Int) :: l0_1.drop (j + 1) by
     have hk : j < l0_1.length := by omega
     rw [List.drop_eq_getElem_cons hk]; simp [rd_T36, List.getD, hk])
    generalize rd_T36 l0_1 (j : Int) = x at xa0 xa1 xa2 HD
    have h1 := HAT.out.1
    have hal := HAT.out.2
    rw [HD.out] at h1
    obtain ⟨at3, hp1, h2⟩ := Option.bind_eq_some_iff.1 h1
    obtain ⟨at4, hp2, h3⟩ := Option.bind_eq_some_iff.1 h2
    clear HAT HD h1 h2
    unfold gPut at hp1 hp2
    split at hp1
    ·rename_i hg1
     split at hp2
     ·rename_i hg2
      obtain ⟨u0, u1, u2⟩ := hg1
      obtain ⟨t0, t1, t2⟩ := hg2
      obtain ⟨f, f', cp⟩ := x
      simp only at xa0 xa1 xa2 u0 u1 u2 t0 t1 t2 hp1 hp2
      obtain ⟨f, rfl⟩ : ∃ m : Nat, f = (m : Int) := ⟨f.toNat, by omega⟩
      obtain ⟨f', rfl⟩ : ∃ m : Nat, f' = (m : Int) := ⟨f'.toNat, by omega⟩
      rw [show ((f : Int)).toNat = f from rfl] at u2 hp1
      rw [show ((f' : Int)).toNat = f' from rfl] at t2 hp2
      have HP1 := Aside0.mk (Option.some.inj hp1)
      have HP2 := Aside0.mk (Option.some.inj hp2)
      have HAT := Aside0.mk h3
      have hal3 : at3.length = n := by rw [← HP1.out, List.length_set]; exact hal
      have hal4 : at4.length = n := by rw [← HP2.out, List.length_set]; exact hal3
      clear hp1 hp2 h3
      rw [hal] at u1
      rw [hal3] at t1
      replace xa0 := HL.out.old xa0
      replace xa1 := HL.out.old xa1
      replace xa2 := HL.out.old xa2
      have b1 : wr.cell? ⟨g3, 1, none⟩ = some (.slice (some ad3) l0_1.length c0_1) := (HL.out.box_cell (i := 0) rfl 1).trans rfl
      go_upto_region 5 with (first
       | ((with_reducible refine gate_dst (N := 9) rfl ?_); refine ev_new HL #[.int .i64 0, .int .i64 0, .int .i64 0] 36 rfl 9 rfl ?hr ?_; (case hr => first | (go_simp; done) | (go_simp; rfl)); intro g9 w3 G9 HL1; clear HL b1 xa0 xa1 xa2; have HL := HL1; clear HL1; have f9 := HL.out.box_fz (i := 3) rfl; have b9 := HL.out.box_cell (i := 3) rfl)
       | ((with_reducible refine gate_store (t := 36) (p := 9) rfl ?_); refine ev_set HL (fun h => ((h.setbox (i := 3) rfl G9 0 (.int .i64 (f : Int))).setbox (i := 3) rfl G9 1 (.int .i64 (f' : Int))).setbox (i := 3) rfl G9 2 (.int .i64 cp)) 36 9 rfl rfl rfl ?hr ?_; (case hr => first | (go_simp; done) | (go_simp; rfl)); intro w4 HL1; clear HL f9 b9; have HL := HL1; clear HL1)
       )
      have hf1 : (f : Int) < (n : Int) := by omega
      have hf2 : (f' : Int) < (n : Int) := by omega
      obtain ⟨ad7, A7, c7, e7, x7, -, -⟩ := at_rows (Kd.S_reads' (HL.out.rowS (i := 2) rfl)).2.2 (f : Int) (by omega) (by omega)
      obtain rfl := Option.some.inj e7
      rw [add_plain, show ((f : Int)).toNat = f from rfl] at x7
      have HLd := Aside0.mk HL.out.drew
      have X7 := Aside0.mk (show w4.drew.cell? _ = _ from x7)
      clear HL x7
      refine start_ (n := 14) (S := fun w' => w'.cell? ⟨g9, 0, none⟩ = some (.int .i64 (f : Int)) ∧ w'.cell? ⟨g7, f, none⟩ = some (.slice A7 (at_.getD f []).length c7)) (ds := [13]) #[false, false, false, false, false, false, false, false, false, false, false, false, false, false] (by kernel_rfl) rfl rfl ⟨(HLd.out.box_cell (i := 3) rfl 0).trans rfl, X7.out⟩ (fun hHeld => ?_); refine with_tabW tab40_5 bits14 (fun HT_ HW_ => ?_)
      generalize w4.drew = wd_ at HLd X7 hHeld ⊢
      refine pure_ (i := 0) (N := some 32) (v := ?_) (a' := ?_) #[true, false, false, false, false, false, false, false, false, false, false, false, false, false] rfl rfl (any_of HT_.out (by kernel_rfl)) (fun _ _ _ h => h) (Or.inl ⟨by rfl, ?_⟩) ?_ ?_; (rotate_left; · intro w'; go_simp; with_reducible rfl); (rotate_left; · simp only [Act.put, List.setIfInBounds_toArray, List.set_cons_zero, List.set_cons_succ, i64_w, i32_w]; rfl)
      refine pure_ (i := 1) (N := some 33) (v := ?_) (a' := ?_) #[true, true, false, false, false, false, false, false, false, false, false, false, false, false] rfl rfl (any_of HT_.out (by kernel_rfl)) (fun _ _ _ h => h) (Or.inl ⟨by rfl, ?_⟩) ?_ ?_; (rotate_left; · intro w'; go_simp; with_reducible rfl); (rotate_left; · simp only [Act.put, List.setIfInBounds_toArray, List.set_cons_zero, List.set_cons_succ, i64_w, i32_w]; rfl)
      refine pure_ (i := 3) (N := some 35) (v := ?_) (a' := ?_) #[true, true, false, true, false, false, false, false, false, false, false, false, false, false] rfl rfl (any_of HT_.out (by kernel_rfl)) (fun _ _ _ h => h) (Or.inl ⟨by rfl, ?_⟩) ?_ ?_; (rotate_left; · intro w'; go_simp; with_reducible rfl); (rotate_left; · simp only [Act.put, List.setIfInBounds_toArray, List.set_cons_zero, List.set_cons_succ, i64_w, i32_w]; rfl)
      refine pure_ (i := 4) (N := some 36) (v := ?_) (a' := ?_) #[true, true, false, true, true, false, false, false, false, false, false, false, false, false] rfl rfl (any_of HT_.out (by kernel_rfl)) (fun _ _ _ h => h) (Or.inl ⟨by rfl, ?_⟩) ?_ ?_; (rotate_left; · intro w'; go_simp; with_reducible rfl); (rotate_left; · simp only [Act.put, List.setIfInBounds_toArray, List.set_cons_zero, List.set_cons_succ, i64_w, i32_w]; rfl)
      refine pure_ (i := 8) (N := some 40) (v := ?_) (a' := ?_) #[true, true, false, true, true, false, false, false, true, false, false, false, false, false] rfl rfl (any_of HT_.out (by kernel_rfl)) (fun _ _ _ h => h) (Or.inl ⟨by rfl, ?_⟩) ?_ ?_; (rotate_left; · intro w'; go_simp; with_reducible rfl); (rotate_left; · simp only [Act.put, List.setIfInBounds_toArray, List.set_cons_zero, List.set_cons_succ, i64_w, i32_w]; rfl)
      refine pure_ (i := 9) (N := some 41) (v := ?_) (a' := ?_) #[true, true, false, true, true, false, false, false, true, true, false, false, false, false] rfl rfl (any_of HT_.out (by kernel_rfl)) (fun _ _ _ h => h) (Or.inl ⟨by rfl, ?_⟩) ?_ ?_; (rotate_left; · intro w'; go_simp; with_reducible rfl); (rotate_left; · simp only [Act.put, List.setIfInBounds_toArray, List.set_cons_zero, List.set_cons_succ, i64_w, i32_w]; rfl)
      refine take_ (i := 2) (N := some 34) (v := ?_) (a' := ?_) #[true, true, true, true, true, false, false, false, true, true, false, false, false, false] rfl rfl (take_ofW HT_.out HW_.out (by kernel_rfl)) (fun _ _ _ h => h) (Or.inl ⟨by rfl, ?_⟩) hHeld ?_ ?_; (rotate_left; · rintro w' ⟨s0, s1⟩; go_simp; with_reducible rfl); (rotate_left; · simp only [Act.put, List.setIfInBounds_toArray, List.set_cons_zero, List.set_cons_succ, i64_w, i32_w]; rfl)
      refine take_ (i := 5) (N := some 37) (v := ?_) (a' := ?_) #[true, true, true, true, true, true, false, false, true, true, false, false, false, false] rfl rfl (take_ofW HT_.out HW_.out (by kernel_rfl)) (fun _ _ _ h => h) (Or.inl ⟨by rfl, ?_⟩) hHeld ?_ ?_; (rotate_left; · rintro w' ⟨s0, s1⟩; go_simp; with_reducible rfl); (rotate_left; · simp only [Act.put, List.setIfInBounds_toArray, List.set_cons_zero, List.set_cons_succ, i64_w, i32_w]; rfl)
      refine pure_ (i := 6) (N := some 38) (v := ?_) (a' := ?_) #[true, true, true, true, true, true, true, false, true, true, false, false, false, false] rfl rfl (any_of HT_.out (by kernel_rfl)) (fun _ _ _ h => h) (Or.inl ⟨by rfl, ?_⟩) ?_ ?_; (rotate_left; · intro w'; go_simp; with_reducible rfl); (rotate_left; · simp only [Act.put, List.setIfInBounds_toArray, List.set_cons_zero, List.set_cons_succ, i64_w, i32_w]; rfl)
      refine take_ (i := 7) (N := some 39) (v := ?_) (a' := ?_) #[true, true, true, true, true, true, true, true, true, true, false, false, false, false] rfl rfl (take_ofW HT_.out HW_.out (by kernel_rfl)) (fun _ _ _ h => h) (Or.inl ⟨by rfl, ?_⟩) hHeld ?_ ?_; (rotate_left; · rintro w' ⟨s0, s1⟩; go_simp; with_reducible rfl); (rotate_left; · simp only [Act.put, List.setIfInBounds_toArray, List.set_cons_zero, List.set_cons_succ, i64_w, i32_w]; rfl)
      refine one_ (i := 10) (N := some 42) #[true, true, true, true, true, true, true, true, true, true, true, false, false, false] rfl rfl (one_of HT_.out (by kernel_rfl)) (by decide) (fun K hK => ?_)
      refine value_ (w1 := ?_) (v := ?_) (by rfl) rfl ?_ ?_; (rotate_left 2; · (go_simp; (constructor <;> rfl)))
      refine hK.out _ _ ⟨((HLd.out.alloc _).box_cell (i := 3) rfl 0).trans rfl, (World.cell?_alloc_lt _ _ _ (World.block_lt_of_cell? _ _ hHeld.2)).trans hHeld.2⟩ (fun hHeld => ?_)
      clear hK K; refine norm_ (a' := ?_) ?_ ?_; (rotate_left; · show Act.put _ (some 42) _ = _; simp only [Act.put, List.setIfInBounds_toArray, List.set_cons_zero, List.set_cons_succ, i64_w, i32_w]; rfl)
      refine one_ (i := 11) (N := some 43) #[true, true, true, true, true, true, true, true, true, true, true, true, false, false] rfl rfl (one_of HT_.out (by kernel_rfl)) (by decide) (fun K hK => ?_)
      refine app_step HLd.out (i := 2) rfl (f : Int) (by omega) (by omega) X7.out (⟨(j : Int), false⟩ : S86) [.int .i64 (j : Int), .bool false] 39 42 84 (.agg #[.int .i64 0, .bool false]) 16 (by rfl) rfl Try.underlying84 hi86 rfl (by decide) (by decide) rfl rfl (k86_mkM _ _ _ _) (by rw [show ((f : Int)).toNat = f from rfl]; omega) ?_
      intro A1_ c1_ w1_ q1_ q2_ q3_ q4_; rw [show ((f : Int)).toNat = f from rfl] at q1_ q2_ q4_
      refine hK.out _ _ ⟨(q3_.box_cell (i := 3) rfl 0).trans rfl, q1_⟩ (fun hHeld => ?_)
      clear hK K; refine norm_ (a' := ?_) ?_ ?_; (rotate_left; · show Act.put _ (some 43) _ = _; simp only [Act.put, List.setIfInBounds_toArray, List.set_cons_zero, List.set_cons_succ, i64_w, i32_w]; rfl)
      refine pure_ (i := 12) (N := some 44) (v := ?_) (a' := ?_) #[true, true, true, true, true, true, true, true, true, true, true, true, true, false] rfl rfl (any_of HT_.out (by kernel_rfl)) (fun _ _ _ h => h) (Or.inl ⟨by rfl, ?_⟩) ?_ ?_; (rotate_left; · intro w'; go_simp; with_reducible rfl); (rotate_left; · simp only [Act.put, List.setIfInBounds_toArray, List.set_cons_zero, List.set_cons_succ, i64_w, i32_w]; rfl)
      refine last_ (i := 13) (N := none) #[true, true, true, true, true, true, true, true, true, true, true, true, true, true] rfl rfl (one_of HT_.out (by kernel_rfl)) (by decide) (fun K hK => ?_)
      refine skip_ (w1 := w1_.setCell ⟨g7, f, none⟩ (.slice A1_ ((at_.getD f []).length + 1) c1_)) (by rfl) rfl (by first | (go_simp; done) | (go_simp; rfl)) ?_
      refine hK.out _ _ ?_; clear hK K; refine done_ (done_of HT_.out (by kernel_rfl)) ?_
      rw [HP1.out] at q4_
      have HL := Aside0.mk q4_
      clear q1_ q2_ q3_ q4_ HLd X7 hHeld HT_ HW_
      generalize w1_.setCell ⟨g7, f, none⟩ (.slice A1_ ((at_.getD f []).length + 1) c1_) = w5 at HL ⊢
      go_upto_region 6 with (fail)
      obtain ⟨ad7, A7, c7, e7, x7, -, -⟩ := at_rows (Kd.S_reads' (HL.out.rowS (i := 2) rfl)).2.2 (f' : Int) (by omega) (by omega)
      obtain rfl := Option.some.inj e7
      rw [add_plain, show ((f' : Int)).toNat = f' from rfl] at x7
      have HLd := Aside0.mk HL.out.drew
      have X7 := Aside0.mk (show w5.drew.cell? _ = _ from x7)
      clear HL x7
      refine start_ (n := 14) (S := fun w' => w'.cell? ⟨g9, 1, none⟩ = some (.int .i64 (f' : Int)) ∧ w'.cell? ⟨g7, f', none⟩ = some (.slice A7 (at3.getD f' []).length c7)) (ds := [13]) #[false, false, false, false, false, false, false, false, false, false, false, false, false, false] (by kernel_rfl) rfl rfl ⟨(HLd.out.box_cell (i := 3) rfl 1).trans rfl, X7.out⟩ (fun hHeld => ?_); refine with_tabW tab40_6 bits14 (fun HT_ HW_ => ?_)
      generalize w5.drew = wd_ at HLd X7 hHeld ⊢
      refine pure_ (i := 0) (N := some 45) (v := ?_) (a' := ?_) #[true, false, false, false, false, false, false, false, false, false, false, false, false, false] rfl rfl (any_of HT_.out (by kernel_rfl)) (fun _ _ _ h => h) (Or.inl ⟨by rfl, ?_⟩) ?_ ?_; (rotate_left; · intro w'; go_simp; with_reducible rfl); (rotate_left; · simp only [Act.put, List.setIfInBounds_toArray, List.set_cons_zero, List.set_cons_succ, i64_w, i32_w]; rfl)
      refine pure_ (i := 1) (N := some 46) (v := ?_) (a' := ?_) #[true, true, false, false, false, false, false, false, false, false, false, false, false, false] rfl rfl (any_of HT_.out (by kernel_rfl)) (fun _ _ _ h => h) (Or.inl ⟨by rfl, ?_⟩) ?_ ?_; (rotate_left; · intro w'; go_simp; with_reducible rfl); (rotate_left; · simp only [Act.put, List.setIfInBounds_toArray, List.set_cons_zero, List.set_cons_succ, i64_w, i32_w]; rfl)
      refine pure_ (i := 3) (N := some 48) (v := ?_) (a' := ?_) #[true, true, false, true, false, false, false, false, false, false, false, false, false, false] rfl rfl (any_of HT_.out (by kernel_rfl)) (fun _ _ _ h => h) (Or.inl ⟨by rfl, ?_⟩) ?_ ?_; (rotate_left; · intro w'; go_simp; with_reducible rfl); (rotate_left; · simp only [Act.put, List.setIfInBounds_toArray, List.set_cons_zero, List.set_cons_succ, i64_w, i32_w]; rfl)
      refine pure_ (i := 4) (N := some 49) (v := ?_) (a' := ?_) #[true, true, false, true, true, false, false, false, false, false, false, false, false, false] rfl rfl (any_of HT_.out (by kernel_rfl)) (fun _ _ _ h => h) (Or.inl ⟨by rfl, ?_⟩) ?_ ?_; (rotate_left; · intro w'; go_simp; with_reducible rfl); (rotate_left; · simp only [Act.put, List.setIfInBounds_toArray, List.set_cons_zero, List.set_cons_succ, i64_w, i32_w]; rfl)
      refine pure_ (i := 8) (N := some 53) (v := ?_) (a' := ?_) #[true, true, false, true, true, false, false, false, true, false, false, false, false, false] rfl rfl (any_of HT_.out (by kernel_rfl)) (fun _ _ _ h => h) (Or.inl ⟨by rfl, ?_⟩) ?_ ?_; (rotate_left; · intro w'; go_simp; with_reducible rfl); (rotate_left; · simp only [Act.put, List.setIfInBounds_toArray, List.set_cons_zero, List.set_cons_succ, i64_w, i32_w]; rfl)
      refine pure_ (i := 9) (N := some 54) (v := ?_) (a' := ?_) #[true, true, false, true, true, false, false, false, true, true, false, false, false, false] rfl rfl (any_of HT_.out (by kernel_rfl)) (fun _ _ _ h => h) (Or.inl ⟨by rfl, ?_⟩) ?_ ?_; (rotate_left; · intro w'; go_simp; with_reducible rfl); (rotate_left; · simp only [Act.put, List.setIfInBounds_toArray, List.set_cons_zero, List.set_cons_succ, i64_w, i32_w]; rfl)
      refine take_ (i := 2) (N := some 47) (v := ?_) (a' := ?_) #[true, true, true, true, true, false, false, false, true, true, false, false, false, false] rfl rfl (take_ofW HT_.out HW_.out (by kernel_rfl)) (fun _ _ _ h => h) (Or.inl ⟨by rfl, ?_⟩) hHeld ?_ ?_; (rotate_left; · rintro w' ⟨s0, s1⟩; go_simp; with_reducible rfl); (rotate_left; · simp only [Act.put, List.setIfInBounds_toArray, List.set_cons_zero, List.set_cons_succ, i64_w, i32_w]; rfl)
      refine take_ (i := 5) (N := some 50) (v := ?_) (a' := ?_) #[true, true, true, true, true, true, false, false, true, true, false, false, false, false] rfl rfl (take_ofW HT_.out HW_.out (by kernel_rfl)) (fun _ _ _ h => h) (Or.inl ⟨by rfl, ?_⟩) hHeld ?_ ?_; (rotate_left; · rintro w' ⟨s0, s1⟩; go_simp; with_reducible rfl); (rotate_left; · simp only [Act.put, List.setIfInBounds_toArray, List.set_cons_zero, List.set_cons_succ, i64_w, i32_w]; rfl)
      refine pure_ (i := 6) (N := some 51) (v := ?_) (a' := ?_) #[true, true, true, true, true, true, true, false, true, true, false, false, false, false] rfl rfl (any_of HT_.out (by kernel_rfl)) (fun _ _ _ h => h) (Or.inl ⟨by rfl, ?_⟩) ?_ ?_; (rotate_left; · intro w'; go_simp; with_reducible rfl); (rotate_left; · simp only [Act.put, List.setIfInBounds_toArray, List.set_cons_zero, List.set_cons_succ, i64_w, i32_w]; rfl)
      refine take_ (i := 7) (N := some 52) (v := ?_) (a' := ?_) #[true, true, true, true, true, true, true, true, true, true, false, false, false, false] rfl rfl (take_ofW HT_.out HW_.out (by kernel_rfl)) (fun _ _ _ h => h) (Or.inl ⟨by rfl, ?_⟩) hHeld ?_ ?_; (rotate_left; · rintro w' ⟨s0, s1⟩; go_simp; with_reducible rfl); (rotate_left; · simp only [Act.put, List.setIfInBounds_toArray, List.set_cons_zero, List.set_cons_succ, i64_w, i32_w]; rfl)
      refine one_ (i := 10) (N := some 55) #[true, true, true, true, true, true, true, true, true, true, true, false, false, false] rfl rfl (one_of HT_.out (by kernel_rfl)) (by decide) (fun K hK => ?_)
      refine value_ (w1 := ?_) (v := ?_) (by rfl) rfl ?_ ?_; (rotate_left 2; · (go_simp; (constructor <;> rfl)))
      refine hK.out _ _ ⟨((HLd.out.alloc _).box_cell (i := 3) rfl 1).trans rfl, (World.cell?_alloc_lt _ _ _ (World.block_lt_of_cell? _ _ hHeld.2)).trans hHeld.2⟩ (fun hHeld => ?_)
      clear hK K; refine norm_ (a' := ?_) ?_ ?_; (rotate_left; · show Act.put _ (some 55) _ = _; simp only [Act.put, List.setIfInBounds_toArray, List.set_cons_zero, List.set_cons_succ, i64_w, i32_w]; rfl)
      refine one_ (i := 11) (N := some 56) #[true, true, true, true, true, true, true, true, true, true, true, true, false, false] rfl rfl (one_of HT_.out (by kernel_rfl)) (by decide) (fun K hK => ?_)
      refine app_step HLd.out (i := 2) rfl (f' : Int) (by omega) (by omega) X7.out (⟨(j : Int), true⟩ : S86) [.int .i64 (j : Int), .bool true] 52 55 84 (.agg #[.int .i64 0, .bool false]) 16 (by rfl) rfl Try.underlying84 hi86 rfl (by decide) (by decide) rfl rfl (k86_mkM _ _ _ _) (by rw [show ((f' : Int)).toNat = f' from rfl]; omega) ?_
      intro A1_ c1_ w1_ q1_ q2_ q3_ q4_; rw [show ((f' : Int)).toNat = f' from rfl] at q1_ q2_ q4_
      refine hK.out _ _ ⟨(q3_.box_cell (i := 3) rfl 1).trans rfl, q1_⟩ (fun hHeld => ?_)
      clear hK K; refine norm_ (a' := ?_) ?_ ?_; (rotate_left; · show Act.put _ (some 56) _ = _; simp only [Act.put, List.setIfInBounds_toArray, List.set_cons_zero, List.set_cons_succ, i64_w, i32_w]; rfl)
      refine pure_ (i := 12) (N := some 57) (v := ?_) (a' := ?_) #[true, true, true, true, true, true, true, true, true, true, true, true, true, false] rfl rfl (any_of HT_.out (by kernel_rfl)) (fun _ _ _ h => h) (Or.inl ⟨by rfl, ?_⟩) ?_ ?_; (rotate_left; · intro w'; go_simp; with_reducible rfl); (rotate_left; · simp only [Act.put, List.setIfInBounds_toArray, List.set_cons_zero, List.set_cons_succ, i64_w, i32_w]; rfl)
      refine last_ (i := 13) (N := none) #[true, true, true, true, true, true, true, true, true, true, true, true, true, true] rfl rfl (one_of HT_.out (by kernel_rfl)) (by decide) (fun K hK => ?_)
      refine skip_ (w1 := w1_.setCell ⟨g7, f', none⟩ (.slice A1_ ((at3.getD f' []).length + 1) c1_)) (by rfl) rfl (by first | (go_simp; done) | (go_simp; rfl)) ?_
      refine hK.out _ _ ?_; clear hK K; refine done_ (done_of HT_.out (by kernel_rfl)) ?_
      rw [HP2.out] at q4_
      have HL := Aside0.mk q4_
      clear q1_ q2_ q3_ q4_ HLd X7 hHeld HT_ HW_
      generalize w1_.setCell ⟨g7, f', none⟩ (.slice A1_ ((at3.getD f' []).length + 1) c1_) = w6 at HL ⊢
      go_wp2
      go_roundg g2
      case measure => omega
      case rel => exact ⟨j + 1, at4, by go_num, ⟨by have := HK.out; omega⟩, ⟨HAT.out, hal4⟩, ⟨HL.out.drop_last⟩⟩
     ·cases hp2
    ·cases hp1
 ·cases h
end Go.Proofs.Ytidomjhihfoabaa.PF
