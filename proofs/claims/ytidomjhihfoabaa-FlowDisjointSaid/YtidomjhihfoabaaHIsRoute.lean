/- codewrightref51.IsRoute where it answers that the route is right. -/
import Derived.Test.YtidomjhihfoabaaPFx0
import Derived.Test.YtidomjhihfoabaaLive2
namespace Go.Proofs.Ytidomjhihfoabaa.PF
open Go Go.RowKit Go.Lib Go.Proofs.YtidomjhihfoabaaW.PrintWords Go.Proofs.YtidomjhihfoabaaW.PrintLast Go.Proofs.Ytidomjhihfoabaa.Lv
set_option linter.unusedVariables false
set_option linter.unusedSimpArgs false

/-- the arcs of a route lie in the network, and each begins where the one before it ends -/
def irLinks (l : List S36) (ra : List Int) : Prop := ∀ j, j < ra.length → 0 ≤ rd ra (j : Int) ∧ rd ra (j : Int) < (l.length : Int) ∧ (0 < j → (rd_T36 l (rd ra ((j : Int) - 1))).f1 = (rd_T36 l (rd ra (j : Int))).f0)
instance (l : List S36) (ra : List Int) : Decidable (irLinks l ra) := by unfold irLinks; infer_instance
def irMark (l : List S36) : List Int → List Bool → Option (List Bool)
 | [], met => some met
 | a :: ra, met => if 0 ≤ (rd_T36 l a).f0 ∧ (rd_T36 l a).f0 < (met.length : Int) ∧ rdOf false met (rd_T36 l a).f0 = false then irMark l ra (met.set (rd_T36 l a).f0.toNat true) else none
def irFirst (l : List S36) (ra : List Int) : Int := (rd_T36 l (rd ra 0)).f0
def irLast (l : List S36) (ra : List Int) : Int := (rd_T36 l (rd ra ((ra.length : Int) - 1))).f1
def isRoute (n : Int) (l : List S36) (s t : Int) (ra : List Int) (amount : Int) : Option Bool :=
 if 0 < ra.length ∧ ra.length < 1099511627776 ∧ 1 ≤ amount ∧ 0 ≤ n ∧ n ≤ 1099511627776 ∧ irLinks l ra then
  (irMark l ra (List.replicate n.toNat false)).bind fun met =>
   if irFirst l ra = irLast l ra then some false
   else if irFirst l ra = s ∧ irLast l ra = t ∧ 0 ≤ irLast l ra ∧ irLast l ra < (met.length : Int) ∧ rdOf false met (irLast l ra) = false then some true else none
 else none
theorem irMark_len (l : List S36) : ∀ (ra : List Int) (met m : List Bool), irMark l ra met = some m → m.length = met.length
 | [], met, m, h => by rw [← Option.some.inj h]
 | a :: ra, met, m, h => by
  rw [irMark] at h
  split at h
  ·rw [irMark_len l ra _ _ h, List.length_set]
  ·cases h

set_option maxHeartbeats 8000000 in
set_option maxRecDepth 100000 in
theorem isRoute_calls (n : Int) (A0 : Option Addr) (c0 : Nat) (l : List S36) (s t : Int) (A1 : Option Addr) (c1 : Nat) (ra : List Int) (amount : Int) (path : Bool) (w : World)
  (hr : Kd.C k36 w A0 l.length l) (hr1 : Kd.C (Kd.int .i64) w A1 ra.length ra) (h : isRoute n l s t ra amount = some path) :
  Calls Try.prog 31 #[.agg #[.int .i64 n, .slice A0 l.length c0], .int .i64 s, .int .i64 t, .agg #[.slice A1 ra.length c1, .int .i64 amount]] w fun e w' => e = .returned (.tuple #[.bool true, .bool path]) ∧ Below w.heap.size w w' := by
 have hu24 := Try.underlying24
 have hu36 := Try.underlying36
 have hu63 := Try.underlying63
 have HR0 := Aside0.mk hr
 have HR1 := Aside0.mk hr1
 clear hr hr1
 unfold isRoute at h
 split at h
 ·rename_i hg
  obtain ⟨hl0, hl1, ham, hn0, hn1, hlk⟩ := hg
  obtain ⟨n, rfl⟩ : ∃ m : Nat, n = (m : Int) := ⟨n.toNat, by omega⟩
  obtain ⟨met, hmark, h1⟩ := Option.bind_eq_some_iff.1 h
  rw [show ((n : Int)).toNat = n from rfl] at hmark
  have hmet := irMark_len _ _ _ _ hmark
  rw [List.length_replicate] at hmet
  have HMK := Aside0.mk hmark
  have HMT := Aside0.mk hmet
  have HLK := Aside0.mk hlk
  have HRes := Aside0.mk h1
  clear h h1 hmark hmet hlk
  obtain ⟨ad1, e1, x0⟩ := Kd.at_int HR1.out 0 (by omega) (by omega)
  subst e1
  rw [show ((0 : Int)).toNat = 0 from rfl, Addr.add_zero'] at x0
  have k0 := HLK.out 0 hl0
  rw [show ((0 : Nat) : Int) = 0 from rfl] at k0
  obtain ⟨ad0, e0, -, -, -⟩ := at_T36 HR0.out (rd ra 0) k0.1 k0.2.1
  subst e0
  have X0 := Aside0.mk x0
  clear x0 k0
  have d1 : decide (amount < 1) = false := decide_eq_false (by omega)
  have d2 : ((ra.length : Int) == 0) = false := beq_eq_false_iff_ne.2 (by omega)
  have d3 : (ra.length == 0) = false := beq_eq_false_iff_ne.2 (by omega)
  have HL := Aside0.mk (Live.nil w)
  go_enter Try.func31, Try.ntmps31
  go_wp2_with (first
   | ((with_reducible refine gate_dst (N := 4) rfl ?_); refine ev_new HL #[.int .i64 (n : Int), .slice (some ad0) l.length c0] 24 rfl 4 rfl ?hr ?_; (case hr => first | (go_simp; done) | (go_simp; rfl)); intro g4 w1 G4 HL1; clear HL; have HL := HL1; clear HL1)
   | ((with_reducible refine gate_dst (N := 7) rfl ?_); refine ev_new HL #[.slice (some ad1) ra.length c1, .int .i64 amount] 63 rfl 7 rfl ?hr ?_; (case hr => first | (go_simp; done) | (go_simp; rfl)); intro g7 w2 G7 HL1; clear HL; have HL := HL1; clear HL1; have b0 : w2.cell? ⟨g4, 0, none⟩ = some (.int .i64 (n : Int)) := (HL.out.box_cell (i := 0) rfl 0).trans rfl; have b1 : w2.cell? ⟨g4, 1, none⟩ = some (.slice (some ad0) l.length c0) := (HL.out.box_cell (i := 0) rfl 1).trans rfl; have b2 : w2.cell? ⟨g7, 0, none⟩ = some (.slice (some ad1) ra.length c1) := (HL.out.box_cell (i := 1) rfl 0).trans rfl; have b3 : w2.cell? ⟨g7, 1, none⟩ = some (.int .i64 amount) := (HL.out.box_cell (i := 1) rfl 1).trans rfl)
   )
  clear b0 b1 b2 b3 d1 d2 d3
  go_loopg [10] ra.length (fun gk v10 wr => ∃ j : Nat, v10 = .int .i64 (j : Int) ∧ Aside0 (ra.length = j + gk) ∧ Aside0 (Live w wr [Box g4 #[.int .i64 (n : Int), .slice (some ad0) l.length c0] 24, Box g7 #[.slice (some ad1) ra.length c1, .int .i64 amount] 63]))
  case atStart => exact ⟨0, rfl, ⟨by omega⟩, HL⟩
  case round =>
   clear HL
   obtain ⟨j, rfl, HK, HL⟩ := hrel
   have b0 : wr.cell? ⟨g4, 0, none⟩ = some (.int .i64 (n : Int)) := (HL.out.box_cell (i := 0) rfl 0).trans rfl
   have b1 : wr.cell? ⟨g4, 1, none⟩ = some (.slice (some ad0) l.length c0) := (HL.out.box_cell (i := 0) rfl 1).trans rfl
   have b2 : wr.cell? ⟨g7, 0, none⟩ = some (.slice (some ad1) ra.length c1) := (HL.out.box_cell (i := 1) rfl 0).trans rfl
   have b3 : wr.cell? ⟨g7, 1, none⟩ = some (.int .i64 amount) := (HL.out.box_cell (i := 1) rfl 1).trans rfl
   cases gk with
   | zero =>
    have hj : decide (j < ra.length) = false := decide_eq_false (by have := HK.out; omega)
    obtain ⟨fi, hfi⟩ : ∃ fi, Aside0 (irFirst l ra = fi) := ⟨_, ⟨rfl⟩⟩
    obtain ⟨la, hla⟩ : ∃ la, Aside0 (irLast l ra = la) := ⟨_, ⟨rfl⟩⟩
    replace HRes := Aside0.mk (by have h := HRes.out; rw [hfi.out, hla.out] at h; exact h)
    go_upto_region 10 with (fail)
    go_cut [11] from 75 to 83 (fun v11 wd => v11 = .int .i64 fi ∧ Aside0 (Live w wd [Box g4 #[.int .i64 (n : Int), .slice (some ad0) l.length c0] 24, Box g7 #[.slice (some ad1) ra.length c1, .int .i64 amount] 63]))
    case first =>
     have k0 := HLK.out 0 hl0
     rw [show ((0 : Nat) : Int) = 0 from rfl] at k0
     obtain ⟨y0, y1, -⟩ := k0
     have x0 := HL.out.old X0.out
     have hfi' := hfi.out
     unfold irFirst at hfi'
     clear HRes hfi hj
     obtain ⟨f, hf⟩ : ∃ f : Nat, rd ra 0 = (f : Int) := ⟨(rd ra 0).toNat, by omega⟩
     rw [hf] at x0 y0 y1 hfi'
     clear hf
     obtain ⟨ad', e', xa, -, -⟩ := at_T36 HR0.out (f : Int) (by omega) y1
     obtain rfl := Option.some.inj e'
     rw [show ((f : Int)).toNat = f from rfl, hfi'] at xa
     replace xa := HL.out.old xa
     have y2 : (0 : Int) < (ra.length : Int) := by omega
     clear hfi'
     go_quiet (fail)
     go_wp2
     go_meet
     case rel => exact ⟨rfl, ⟨HL.out.drewN _⟩⟩
    case rest =>
     clear HL b0 b1 b2 b3
     obtain ⟨rfl, HL⟩ := hcut
     have b0 : wc.cell? ⟨g4, 0, none⟩ = some (.int .i64 (n : Int)) := (HL.out.box_cell (i := 0) rfl 0).trans rfl
     have b1 : wc.cell? ⟨g4, 1, none⟩ = some (.slice (some ad0) l.length c0) := (HL.out.box_cell (i := 0) rfl 1).trans rfl
     have b2 : wc.cell? ⟨g7, 0, none⟩ = some (.slice (some ad1) ra.length c1) := (HL.out.box_cell (i := 1) rfl 0).trans rfl
     have b3 : wc.cell? ⟨g7, 1, none⟩ = some (.int .i64 amount) := (HL.out.box_cell (i := 1) rfl 1).trans rfl
     go_upto_region 11 with (fail)
     go_cut [12] from 84 to 96 (fun v12 wd => v12 = .int .i64 la ∧ Aside0 (Live w wd [Box g4 #[.int .i64 (n : Int), .slice (some ad0) l.length c0] 24, Box g7 #[.slice (some ad1) ra.length c1, .int .i64 amount] 63]))
     case first =>
      have k0 := HLK.out (ra.length - 1) (by omega)
      rw [show ((ra.length - 1 : Nat) : Int) = (ra.length : Int) - 1 by omega] at k0
      obtain ⟨y0, y1, -⟩ := k0
      obtain ⟨ad', e', x0⟩ := Kd.at_int HR1.out ((ra.length : Int) - 1) (by omega) (by omega)
      obtain rfl := Option.some.inj e'
      rw [show ((ra.length : Int) - 1).toNat = ra.length - 1 by omega] at x0
      replace x0 := HL.out.old x0
      have hla' := hla.out
      unfold irLast at hla'
      clear HRes hla hj hfi
      obtain ⟨f, hf⟩ : ∃ f : Nat, rd ra ((ra.length : Int) - 1) = (f : Int) := ⟨(rd ra ((ra.length : Int) - 1)).toNat, by omega⟩
      rw [hf] at x0 y0 y1 hla'
      clear hf
      obtain ⟨ad', e', -, xa, -⟩ := at_T36 HR0.out (f : Int) (by omega) y1
      obtain rfl := Option.some.inj e'
      rw [show ((f : Int)).toNat = f from rfl, hla'] at xa
      replace xa := HL.out.old xa
      have y2 : (0 : Int) ≤ (ra.length : Int) - 1 := by omega
      have y2' : (1 : Int) ≤ (ra.length : Int) := by omega
      have y3 : (ra.length : Int) - 1 < (ra.length : Int) := by omega
      clear hla'
      go_quiet (fail)
      go_wp2
      go_meet
      case rel => exact ⟨rfl, ⟨HL.out.drewN _⟩⟩
     case rest =>
      clear HL b0 b1 b2 b3 hfi hla
      obtain ⟨rfl, HL⟩ := hcut
      have b0 : wc.cell? ⟨g4, 0, none⟩ = some (.int .i64 (n : Int)) := (HL.out.box_cell (i := 0) rfl 0).trans rfl
      have b1 : wc.cell? ⟨g4, 1, none⟩ = some (.slice (some ad0) l.length c0) := (HL.out.box_cell (i := 0) rfl 1).trans rfl
      have b2 : wc.cell? ⟨g7, 0, none⟩ = some (.slice (some ad1) ra.length c1) := (HL.out.box_cell (i := 1) rfl 0).trans rfl
      have b3 : wc.cell? ⟨g7, 1, none⟩ = some (.int .i64 amount) := (HL.out.box_cell (i := 1) rfl 1).trans rfl
      go_wp2_with (first
       | ((with_reducible refine gate_dst (N := 99) rfl ?_); refine ev_make HL Kd.bool 4 false n 99 28 _ _ (.bool false) 1 rfl rfl rfl rfl rfl Try.underlying28 info4 rfl (by decide) (by decide) rfl (by omega) ?_; intro v13 w4 HL1; clear HL b0 b1 b2 b3; have HL := HL1; clear HL1; (obtain ⟨A13, c13, e_⟩ := Kd.R_slice (HL.out.row (i := 2) rfl)); (rw [List.length_replicate] at e_); subst e_; have b0 : w4.cell? ⟨g4, 0, none⟩ = some (.int .i64 (n : Int)) := (HL.out.box_cell (i := 0) rfl 0).trans rfl; have b1 : w4.cell? ⟨g4, 1, none⟩ = some (.slice (some ad0) l.length c0) := (HL.out.box_cell (i := 0) rfl 1).trans rfl; have b2 : w4.cell? ⟨g7, 0, none⟩ = some (.slice (some ad1) ra.length c1) := (HL.out.box_cell (i := 1) rfl 0).trans rfl; have b3 : w4.cell? ⟨g7, 1, none⟩ = some (.int .i64 amount) := (HL.out.box_cell (i := 1) rfl 1).trans rfl)
       )
      clear b0 b1 b2 b3
      go_loopg [14, 15] ra.length (fun gk v14 _ wr => ∃ (j : Nat) (mt : List Bool), v14 = .int .i64 (j : Int) ∧ Aside0 (ra.length = j + gk) ∧ Aside0 (irMark l (ra.drop j) mt = some met ∧ mt.length = n) ∧ Aside0 (Live w wr [Box g4 #[.int .i64 (n : Int), .slice (some ad0) l.length c0] 24, Box g7 #[.slice (some ad1) ra.length c1, .int .i64 amount] 63, Row w.heap.size Kd.bool 4 (.slice A13 n c13) mt]))
      case atStart => exact ⟨0, _, rfl, ⟨by omega⟩, ⟨HMK.out, by simp⟩, HL⟩
      case round =>
       clear HL HMK hj
       obtain ⟨j, mt, rfl, HK, HMK, HL⟩ := hrel
       have b0 : wr.cell? ⟨g4, 0, none⟩ = some (.int .i64 (n : Int)) := (HL.out.box_cell (i := 0) rfl 0).trans rfl
       have b1 : wr.cell? ⟨g4, 1, none⟩ = some (.slice (some ad0) l.length c0) := (HL.out.box_cell (i := 0) rfl 1).trans rfl
       have b2 : wr.cell? ⟨g7, 0, none⟩ = some (.slice (some ad1) ra.length c1) := (HL.out.box_cell (i := 1) rfl 0).trans rfl
       have b3 : wr.cell? ⟨g7, 1, none⟩ = some (.int .i64 amount) := (HL.out.box_cell (i := 1) rfl 1).trans rfl
       cases gk with
       | zero =>
        have hj : decide (j < ra.length) = false := decide_eq_false (by have := HK.out; omega)
        have h1 := HMK.out.1
        rw [List.drop_of_length_le (by have := HK.out; omega)] at h1
        obtain rfl := Option.some.inj h1
        have h2 := HRes.out
        clear h1 HRes HMK HK
        split at h2
        ·rename_i he
         subst he
         obtain rfl := Option.some.inj h2
         clear h2
         go_wp2
         go_ret2
         exact ⟨rfl, HL.out.hb⟩
        ·rename_i hne
         have q0 : (fi == la) = false := beq_eq_false_iff_ne.2 hne
         split at h2
         ·rename_i hg
          obtain ⟨rfl, rfl, z0, z1, z2⟩ := hg
          obtain rfl := Option.some.inj h2
          obtain ⟨f, rfl⟩ : ∃ f : Nat, la = (f : Int) := ⟨la.toNat, by omega⟩
          have z3 : (f : Int) < (n : Int) := by have := HMT.out; omega
          obtain ⟨ad', e', xm⟩ := Kd.at_bool (Kd.R_reads' (HL.out.row (i := 2) rfl)).2.2 (f : Int) (by omega) z1
          subst e'
          rw [show ((f : Int)).toNat = f from rfl, z2] at xm
          clear h2 hne z1 z2
          go_wp2
          go_ret2
          exact ⟨rfl, HL.out.hb⟩
         ·cases h2
       | succ g2 =>
        have hj : decide (j < ra.length) = true := decide_eq_true (by have := HK.out; omega)
        have hjz : (j : Int) < (ra.length : Int) := by have := HK.out; omega
        have hjb : j + 1 < 9223372036854775808 := by omega
        obtain ⟨ad', e', xa⟩ := Kd.at_int HR1.out (j : Int) (by omega) hjz
        obtain rfl := Option.some.inj e'
        rw [show ((j : Int)).toNat = j from rfl] at xa
        replace xa := HL.out.old xa
        obtain ⟨y0, y1, -⟩ := HLK.out j (by omega)
        have HD := Aside0.mk (show ra.drop j = rd ra (j : Int) :: ra.drop (j + 1) by
         have hk : j < ra.length := by omega
         rw [List.drop_eq_getElem_cons hk]; simp [rd, List.getD, hk])
        have h1 := HMK.out.1
        have hmt := HMK.out.2
        rw [HD.out, irMark] at h1
        clear HMK HD
        obtain ⟨f, hf⟩ : ∃ f : Nat, rd ra (j : Int) = (f : Int) := ⟨(rd ra (j : Int)).toNat, by omega⟩
        rw [hf] at xa y0 y1 h1
        clear hf
        obtain ⟨ad', e', xb, -, -⟩ := at_T36 HR0.out (f : Int) (by omega) y1
        obtain rfl := Option.some.inj e'
        rw [show ((f : Int)).toNat = f from rfl] at xb
        replace xb := HL.out.old xb
        generalize (rd_T36 l (f : Int)).f0 = v at xb h1
        split at h1
        ·rename_i hg
         obtain ⟨z0, z1, z2⟩ := hg
         obtain ⟨v, rfl⟩ : ∃ q : Nat, v = (q : Int) := ⟨v.toNat, by omega⟩
         rw [show ((v : Int)).toNat = v from rfl] at h1
         have HMK := Aside0.mk (And.intro h1 hmt)
         have z3 : (v : Int) < (n : Int) := by omega
         have HZ := Aside0.mk z2
         clear h1 hmt z1 z2
         go_upto_region 16 with (fail)
         go_cut [15] from 107 to 116 (fun v15 wd => v15 = .int .i64 (v : Int) ∧ Aside0 (Live w wd [Box g4 #[.int .i64 (n : Int), .slice (some ad0) l.length c0] 24, Box g7 #[.slice (some ad1) ra.length c1, .int .i64 amount] 63, Row w.heap.size Kd.bool 4 (.slice A13 n c13) mt]))
         case first =>
          clear HRes HMK HZ z3
          go_quiet (fail)
          go_wp2
          go_meet
          case rel => exact ⟨rfl, ⟨HL.out.drewN _⟩⟩
         case rest =>
          clear HL b0 b1 b2 b3 xa xb
          obtain ⟨rfl, HL⟩ := hcut
          obtain ⟨gm, pm, em, -, -, -⟩ := Kd.R_form (HL.out.row (i := 2) rfl) (by have := HMK.out.2; omega)
          injection em with e1 e2 e3
          subst e1 e3
          clear e2
          obtain ⟨xm, fm⟩ := Kd.R_celln false (HL.out.row (i := 2) rfl) (v : Int) (by omega) z3
          rw [show ((v : Int)).toNat = v from rfl] at xm fm
          replace xm : wc.cell? ⟨gm, v, none⟩ = some (.bool false) := xm.trans (congrArg (fun z => some (Value.bool z)) HZ.out)
          go_wp2_with (first
           | ((with_reducible refine gate_store (t := 4) (p := 123) rfl ?_); refine ev_set HL (fun h => h.put (i := 2) (enc := Value.bool) rfl (v : Int) true) 4 123 rfl rfl rfl ?hr ?_; (case hr => first | (go_simp; done) | (go_simp; rfl)); intro w6 HL1; clear HL xm fm; have HL := HL1; clear HL1)
           )
          go_roundg g2
          case measure => omega
          case rel => exact ⟨j + 1, mt.set v true, by go_num, ⟨by have := HK.out; omega⟩, ⟨HMK.out.1, by rw [List.length_set]; exact HMK.out.2⟩, HL⟩
        ·cases h1
   | succ g2 =>
    have hj : decide (j < ra.length) = true := decide_eq_true (by have := HK.out; omega)
    have hjz : (j : Int) < (ra.length : Int) := by have := HK.out; omega
    have hjb : j + 1 < 9223372036854775808 := by omega
    obtain ⟨ad', e', xa⟩ := Kd.at_int HR1.out (j : Int) (by omega) hjz
    obtain rfl := Option.some.inj e'
    rw [show ((j : Int)).toNat = j from rfl] at xa
    replace xa := HL.out.old xa
    obtain ⟨y0, y1, y2⟩ := HLK.out j (by omega)
    obtain ⟨ad', e', xb, -, -⟩ := at_T36 HR0.out (rd ra (j : Int)) y0 y1
    obtain rfl := Option.some.inj e'
    obtain ⟨f, hf⟩ : ∃ f : Nat, rd ra (j : Int) = (f : Int) := ⟨(rd ra (j : Int)).toNat, by omega⟩
    rw [hf] at xa y0 y1 y2 xb
    clear hf
    rw [show ((f : Int)).toNat = f from rfl] at xb
    replace xb := HL.out.old xb
    generalize (rd_T36 l (f : Int)).f0 = v at xb y2
    have d1 : decide ((f : Int) < 0) = false := decide_eq_false (by omega)
    have d2 : decide (l.length ≤ f) = false := decide_eq_false (by omega)
    have d2' : decide ((l.length : Int) ≤ (f : Int)) = false := decide_eq_false (by omega)
    by_cases c0 : 0 < j
    ·have y3 := y2 c0
     clear y2
     have d3 : decide (0 < j) = true := decide_eq_true c0
     have c0' : (0 : Int) < (j : Int) := by omega
     have c1' : (1 : Int) ≤ (j : Int) := by omega
     have c2' : (j : Int) - 1 < (ra.length : Int) := by omega
     obtain ⟨ad', e', xc⟩ := Kd.at_int HR1.out ((j : Int) - 1) (by omega) (by omega)
     obtain rfl := Option.some.inj e'
     rw [show ((j : Int) - 1).toNat = j - 1 by omega] at xc
     replace xc := HL.out.old xc
     have kp := HLK.out (j - 1) (by omega)
     rw [show ((j - 1 : Nat) : Int) = (j : Int) - 1 by omega] at kp
     obtain ⟨z0, z1, -⟩ := kp
     obtain ⟨p, hp⟩ : ∃ p : Nat, rd ra ((j : Int) - 1) = (p : Int) := ⟨(rd ra ((j : Int) - 1)).toNat, by omega⟩
     rw [hp] at xc z0 z1 y3
     clear hp
     obtain ⟨ad', e', -, xd, -⟩ := at_T36 HR0.out (p : Int) (by omega) z1
     obtain rfl := Option.some.inj e'
     rw [show ((p : Int)).toNat = p from rfl, y3] at xd
     replace xd := HL.out.old xd
     clear y3
     go_upto_region 6 with (fail)
     go_quiet (fail)
     go_upto_region 8 with (fail)
     go_quiet (fail)
     go_wp2
     go_roundg g2
     case measure => omega
     case rel => exact ⟨j + 1, by go_num, ⟨by have := HK.out; omega⟩, ⟨HL.out.drewN _⟩⟩
    ·have d3 : decide (0 < j) = false := decide_eq_false c0
     clear y2
     go_upto_region 6 with (fail)
     go_quiet (fail)
     go_upto_region 8 with (fail)
     go_quiet (fail)
     go_wp2
     go_roundg g2
     case measure => omega
     case rel => exact ⟨j + 1, by go_num, ⟨by have := HK.out; omega⟩, ⟨HL.out.drewN _⟩⟩
 ·cases h
end Go.Proofs.Ytidomjhihfoabaa.PF
-- thin
