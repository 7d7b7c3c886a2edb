/- Chains of unit rules lead from their first nonterminal to their last, and are the shortest.: part 6 of 6 of its proof, packed by a program of this session out of the texts GLaw102, UnitP, UnitQ, UnitL, LUnitsLead. -/
import Derived.Test.YtgdcnmpcfoomiaaDoorZUL4
import Derived.Test.YtgdcnmpcfoomiaaDoorRows
import Derived.Test.YtgdcnmpcfoomiaaDoorTie
import Derived.Test.YtgdcnmpcfoomiaaDoorCards
import Derived.WalkKit
import Derived.ProofKit
import Derived.OpenShut
import Derived.ShutString
import Derived.ChangeOld
import Derived.ChangeVars
import Derived.ChangeSame
import Derived.JoinedOf
import Derived.Below
import Derived.SizedLaws
import Derived.Handed
import Derived.LaidLaws
import Derived.LaidHandle
import Derived.Lay
import Derived.MakeChecks
import Derived.Stop.Joined
import Derived.SevenTiedAt
section
namespace Go.Proofs.YtgdcnmpcfoomiaaDoor.G
open Go.RowKit Go.Proofs.YtgdcnmpcfoomiaaDoorW.PrintWords Go.Proofs.YtgdcnmpcfoomiaaDoorW.PrintLast Go.Proofs.YtgdcnmpcfoomiaaDoorW.PrintMore
attribute [local go_sem] max2_int min2_int max_two min_two max_three min_three max_four min_four
attribute [local go_sem] Go.Proofs.YtgdcnmpcfoomiaaDoorOwn.isSome_setCell
set_option linter.unusedVariables false
set_option linter.unusedSimpArgs false
mutual
def wickerlaw10_UnitsLead.j0 : Nat → Bool → List ByteArray → List ByteArray → Int → List (S35) → Option (Bool)
 | 0, _, _, _, _, _ => none
 | k + 1, x30, x102000, x102001, x102002, x102003 => if x30 = true then ((wickerlaw10_Awake.f k).bind fun t104 => (some t104)) else (wickerlaw10_UnitsLead.l0 k (x102000.length : Int) 0 x102000 x102001 x102002 x102003)
def wickerlaw10_UnitsLead.l0 : Nat → Int → Int → List ByteArray → List ByteArray → Int → List (S35) → Option (Bool)
 | 0, _, _, _, _, _, _ => none
 | k + 1, x34, x35, x102000, x102001, x102002, x102003 => if x35 < x34 then ((units_From.f k x102000 x102001 x102002 x102003 x35).bind fun t106 => (wickerlaw10_UnitsLead.l1 k x35 x34 x35 t106 (t106.length : Int) 0 x102000 x102001 x102002 x102003)) else ((wickerlaw10_Awake.f k).bind fun t105 => (some t105))
def wickerlaw10_UnitsLead.l1 : Nat → Int → Int → Int → List Int → Int → Int → List ByteArray → List ByteArray → Int → List (S35) → Option (Bool)
 | 0, _, _, _, _, _, _, _, _, _, _ => none
 | k + 1, x3, x34, x35, x40, x41, x42, x102000, x102001, x102002, x102003 => if x42 < x41 then (if 0 ≤ x42 then (if x42 < (x40.length : Int) then ((units_Chain.f k x102000 x102001 x102002 x102003 x3 (rd x40 x42)).bind fun bt110 => (wickerlaw10_UnitsLead.l2 k x3 (rd x40 x42) bt110.1 bt110.2 x3 x34 x35 x40 x41 x42 bt110.1 (bt110.1.length : Int) 0 x102000 x102001 x102002 x102003)) else (none)) else (none)) else (wickerlaw10_UnitsLead.l0 k x34 (wrap64 (x35 + 1)) x102000 x102001 x102002 x102003)
def wickerlaw10_UnitsLead.l2 : Nat → Int → Int → List Int → Bool → Int → Int → Int → List Int → Int → Int → List Int → Int → Int → List ByteArray → List ByteArray → Int → List (S35) → Option (Bool)
 | 0, _, _, _, _, _, _, _, _, _, _, _, _, _, _, _, _, _ => none
 | k + 1, x3, x5, x6, x7, x8, x34, x35, x40, x41, x42, x54, x55, x56, x102000, x102001, x102002, x102003 => if x56 < x55 then (if 0 ≤ x56 then (if x56 < (x54.length : Int) then (if (rd x54 x56) < 0 then (some false) else (if (rd x54 x56) ≥ (x102003.length : Int) then (some false) else (if 0 ≤ (rd x54 x56) then (if (rd x54 x56) < (x102003.length : Int) then (if ((rd_T35 x102003 (rd x54 x56)).f0) = x8 then (if (((rd_T35 x102003 (rd x54 x56)).f1).length : Int) = 1 then (if 0 < (((rd_T35 x102003 (rd x54 x56)).f1).length : Int) then ((gram_Sym_IsTerm.f (rd ((rd_T35 x102003 (rd x54 x56)).f1) 0)).bind fun t119 => (if t119 = true then (some false) else ((gram_Sym_Place.f (rd ((rd_T35 x102003 (rd x54 x56)).f1) 0)).bind fun t122 => (wickerlaw10_UnitsLead.l2 k x3 x5 x6 x7 t122 x34 x35 x40 x41 x42 x54 x55 (wrap64 (x56 + 1)) x102000 x102001 x102002 x102003)))) else (none)) else (some false)) else (some false)) else (none)) else (none)))) else (none)) else (none)) else (if x7 = true then (if x8 = x5 then (if x3 = x5 then (wickerlaw10_UnitsLead.j4 k x3 x5 x6 x34 x35 x40 x41 x42 (decide ((x6.length : Int) > 0)) x102000 x102001 x102002 x102003) else (wickerlaw10_UnitsLead.j4 k x3 x5 x6 x34 x35 x40 x41 x42 false x102000 x102001 x102002 x102003)) else (wickerlaw10_UnitsLead.j4 k x3 x5 x6 x34 x35 x40 x41 x42 true x102000 x102001 x102002 x102003)) else (wickerlaw10_UnitsLead.j4 k x3 x5 x6 x34 x35 x40 x41 x42 true x102000 x102001 x102002 x102003))
def wickerlaw10_UnitsLead.j4 : Nat → Int → Int → List Int → Int → Int → List Int → Int → Int → Bool → List ByteArray → List ByteArray → Int → List (S35) → Option (Bool)
 | 0, _, _, _, _, _, _, _, _, _, _, _, _, _ => none
 | k + 1, x3, x5, x6, x34, x35, x40, x41, x42, x126, x102000, x102001, x102002, x102003 => if x126 = true then (some false) else ((units_From.f k x102000 x102001 x102002 x102003 x5).bind fun t123 => (wickerlaw10_UnitsLead.l3 k x3 x5 x6 x34 x35 x40 x41 x42 t123 (t123.length : Int) 0 x102000 x102001 x102002 x102003))
def wickerlaw10_UnitsLead.l3 : Nat → Int → Int → List Int → Int → Int → List Int → Int → Int → List Int → Int → Int → List ByteArray → List ByteArray → Int → List (S35) → Option (Bool)
 | 0, _, _, _, _, _, _, _, _, _, _, _, _, _, _, _ => none
 | k + 1, x3, x5, x6, x34, x35, x40, x41, x42, x129, x130, x131, x102000, x102001, x102002, x102003 => if x131 < x130 then (if 0 ≤ x131 then (if x131 < (x129.length : Int) then ((units_Chain.f k x102000 x102001 x102002 x102003 x5 (rd x129 x131)).bind fun bt127 => ((units_Chain.f k x102000 x102001 x102002 x102003 x3 (rd x129 x131)).bind fun bt131 => (if bt127.2 = true then (if bt131.2 = true then (if (bt131.1.length : Int) > (wrap64 ((x6.length : Int) + (bt127.1.length : Int))) then (some false) else (wickerlaw10_UnitsLead.l3 k x3 x5 x6 x34 x35 x40 x41 x42 x129 x130 (wrap64 (x131 + 1)) x102000 x102001 x102002 x102003)) else (some false)) else (some false)))) else (none)) else (none)) else (wickerlaw10_UnitsLead.l1 k x3 x34 x35 x40 x41 (wrap64 (x42 + 1)) x102000 x102001 x102002 x102003)
end
def wickerlaw10_UnitsLead.f (k : Nat) (l0_0 : List ByteArray) (l0_1 : List ByteArray) (a0_2 : Int) (l0_3 : List (S35)) : Option (Bool) := (wickerlaw02_Small.f k l0_0 l0_1 a0_2 l0_3).bind fun t102 => (if t102 = true then ((wickerlaw02_May.f l0_0 l0_1 a0_2 l0_3).bind fun t103 => (if t103 = true then (wickerlaw10_UnitsLead.j0 k (decide ((l0_0.length : Int) > 8)) l0_0 l0_1 a0_2 l0_3) else (wickerlaw10_UnitsLead.j0 k true l0_0 l0_1 a0_2 l0_3))) else (wickerlaw10_UnitsLead.j0 k true l0_0 l0_1 a0_2 l0_3))
set_option maxHeartbeats 8000000 in
set_option maxRecDepth 100000 in
theorem wickerlaw10_UnitsLead.calls (k : Nat) (A0_0 : Option Addr) (c0_0 : Nat) (l0_0 : List ByteArray) (A0_1 : Option Addr) (c0_1 : Nat) (l0_1 : List ByteArray) (a0_2 : Int) (A0_3 : Option Addr) (c0_3 : Nat) (l0_3 : List (S35)) (r : Bool) (w : World) (hG : Laid w) (hr0_0 : Kd.C Kd.string w A0_0 l0_0.length l0_0) (hc0_0 : l0_0.length ≤ c0_0) (hr0_1 : Kd.C Kd.string w A0_1 l0_1.length l0_1) (hc0_1 : l0_1.length ≤ c0_1) (hr0_3 : Kd.C k35 w A0_3 l0_3.length l0_3) (hc0_3 : l0_3.length ≤ c0_3) (h : wickerlaw10_UnitsLead.f k l0_0 l0_1 a0_2 l0_3 = some r) :
  Calls Tryd.prog 7 #[.agg #[.slice A0_0 l0_0.length c0_0, .slice A0_1 l0_1.length c0_1, .int .i64 a0_2, .slice A0_3 l0_3.length c0_3]] w fun e w' => e = .returned (.bool r) ∧ Below w.heap.size w w' := by
 have hu25 := Tryd.underlying25
 have HG := Aside0.mk hG
 clear hG
 have HR0_0 := Aside0.mk hr0_0
 have HC0_0 := Aside0.mk hc0_0
 clear hr0_0 hc0_0
 have HR0_1 := Aside0.mk hr0_1
 have HC0_1 := Aside0.mk hc0_1
 clear hr0_1 hc0_1
 have HR0_3 := Aside0.mk hr0_3
 have HC0_3 := Aside0.mk hc0_3
 clear hr0_3 hc0_3
 have HB := Aside0.mk (Below.refl w.heap.size w)
 have H : ((wickerlaw02_Small.f k l0_0 l0_1 a0_2 l0_3).bind fun t102 => (if t102 = true then ((wickerlaw02_May.f l0_0 l0_1 a0_2 l0_3).bind fun t103 => (if t103 = true then (wickerlaw10_UnitsLead.j0 k (decide ((l0_0.length : Int) > 8)) l0_0 l0_1 a0_2 l0_3) else (wickerlaw10_UnitsLead.j0 k true l0_0 l0_1 a0_2 l0_3))) else (wickerlaw10_UnitsLead.j0 k true l0_0 l0_1 a0_2 l0_3))) = some r := h
 clear h
 have HC2 := Aside0.mk H
 clear H
 go_enter Tryd.func7, Tryd.ntmps7
 go_upto_region 1 with (first | ((with_reducible refine gate_dst (N := 1) rfl ?_); (try (refine gate_guard (by rfl) ?_; dsimp only)); refine box_event ?hg (N := 1) ?hd (cs := #[.slice A0_0 l0_0.length c0_0, .slice A0_1 l0_1.length c0_1, .int .i64 a0_2, .slice A0_3 l0_3.length c0_3]) (t := 25) ?hr ?_; (case hd => rfl); (case hg => rfl); (case hr => first | (go_simp; done) | (go_simp; rfl)); intro gb101 hg w3 hbox hb; have n0_ := Aside0.mk (below_step (by repeat (first | (with_reducible first | exact HB.out | apply below_alloc | apply pw_below_drewN | apply below_drew1) | exact HB.out)) hb); have n1_ := Aside0.mk (hbox); have n2_ := Aside0.mk ((by rw [hg]; exact (below_size (by repeat (first | (with_reducible first | exact HB.out | apply below_alloc | apply pw_below_drewN | apply below_drew1) | exact HB.out))) : w.heap.size ≤ gb101)); have n3_ := Aside0.mk ((by rw [hg]; exact (below_size (by repeat (first | (with_reducible first | exact HB.out | apply below_alloc | apply pw_below_drewN | apply below_drew1) | exact HB.out))) : w.heap.size ≤ gb101)); clear HB; have HB := n0_; have BK101 := n1_; have GW101 := n2_; have GE101 := n3_; clear n0_ n1_ n2_ n3_; clear hb hbox hg))
 (try simp only [Act.put, List.setIfInBounds_toArray, List.set_cons_zero, List.set_cons_succ])
 go_cut [30] (fun v30 wc => ∃ (kq : Nat) (x30_1 : Bool), v30 = .bool x30_1 ∧ Aside0 (wickerlaw10_UnitsLead.j0 kq x30_1 l0_0 l0_1 a0_2 l0_3 = some r) ∧ Aside0 (kq ≤ k) ∧ Aside0 (wc.heap[gb101]? = some (.cells #[(.slice A0_0 l0_0.length c0_0), (.slice A0_1 l0_1.length c0_1), .int .i64 a0_2, (.slice A0_3 l0_3.length c0_3)] 25 (0, 0))) ∧ Aside0 (Below w.heap.size w wc))
 case first =>
  have H := HC2.out
  clear HC2
  replace H := Option.bind_eq_some_iff.mp H
  obtain ⟨t102, A40, H⟩ := H
  replace H : (if t102 = true then ((wickerlaw02_May.f l0_0 l0_1 a0_2 l0_3).bind fun t103 => (if t103 = true then (wickerlaw10_UnitsLead.j0 k (decide ((l0_0.length : Int) > 8)) l0_0 l0_1 a0_2 l0_3) else (wickerlaw10_UnitsLead.j0 k true l0_0 l0_1 a0_2 l0_3))) else (wickerlaw10_UnitsLead.j0 k true l0_0 l0_1 a0_2 l0_3)) = some r := H
  have A4 := Aside0.mk A40
  clear A40
  by_cases c5 : t102 = true
  ·subst c5
   have H1 : ((wickerlaw02_May.f l0_0 l0_1 a0_2 l0_3).bind fun t103 => (if t103 = true then (wickerlaw10_UnitsLead.j0 k (decide ((l0_0.length : Int) > 8)) l0_0 l0_1 a0_2 l0_3) else (wickerlaw10_UnitsLead.j0 k true l0_0 l0_1 a0_2 l0_3))) = some r := by rw [if_pos rfl] at H; exact H
   clear H
   have H := H1
   clear H1
   replace H := Option.bind_eq_some_iff.mp H
   obtain ⟨t103, A60, H⟩ := H
   replace H : (if t103 = true then (wickerlaw10_UnitsLead.j0 k (decide ((l0_0.length : Int) > 8)) l0_0 l0_1 a0_2 l0_3) else (wickerlaw10_UnitsLead.j0 k true l0_0 l0_1 a0_2 l0_3)) = some r := H
   have A6 := Aside0.mk A60
   clear A60
   by_cases c7 : t103 = true
   ·subst c7
    have H1 : (wickerlaw10_UnitsLead.j0 k (decide ((l0_0.length : Int) > 8)) l0_0 l0_1 a0_2 l0_3) = some r := by rw [if_pos rfl] at H; exact H
    clear H
    have H := H1
    clear H1
    have H' := Aside0.mk H
    clear H
    have hcz8_0 : w3.cell? ⟨gb101, 0, none⟩ = some (.slice A0_0 l0_0.length c0_0) := (blk_cell BK101.out 0).trans rfl
    have hcz8_1 : w3.cell? ⟨gb101, 1, none⟩ = some (.slice A0_1 l0_1.length c0_1) := (blk_cell BK101.out 1).trans rfl
    have hcz8_2 : w3.cell? ⟨gb101, 2, none⟩ = some (.int .i64 a0_2) := (blk_cell BK101.out 2).trans rfl
    have hcz8_3 : w3.cell? ⟨gb101, 3, none⟩ = some (.slice A0_3 l0_3.length c0_3) := (blk_cell BK101.out 3).trans rfl
    have hfz8_0 := blk_frozen BK101.out 0
    have hfz8_1 := blk_frozen BK101.out 1
    have hfz8_2 := blk_frozen BK101.out 2
    have hfz8_3 := blk_frozen BK101.out 3
    go_wp2_with (first | ((with_reducible refine gate_callee (f := 9) rfl ?_); refine goesL_ (some 18) rfl rfl Tryd.func9 (by kernel_rfl) rfl #[.agg #[.slice A0_0 l0_0.length c0_0, .slice A0_1 l0_1.length c0_1, .int .i64 a0_2, .slice A0_3 l0_3.length c0_3]] rfl (by (try simp only [List.map_toArray, List.map_cons, List.map_nil]); first | done | rfl | (simp only [List.length_drop, List.length_take]; rfl)) ?_; (with_reducible refine (wickerlaw02_Small.calls k _ _ l0_0 _ _ l0_1 a0_2 _ _ l0_3 true _ ?side1 ?side2 ?side3 ?side4 ?side5 ?side6 A4.out).mono ?_); (case side1 => repeat (first | exact (Kd.C_below HR0_0.out HB.out) | (with_reducible refine Kd.C_alloc ?_ _) | (with_reducible refine Kd.C_drewN ?_ _) | (with_reducible refine Kd.C_drew ?_))); (case side2 => exact HC0_0.out); (case side3 => repeat (first | exact (Kd.C_below HR0_1.out HB.out) | (with_reducible refine Kd.C_alloc ?_ _) | (with_reducible refine Kd.C_drewN ?_ _) | (with_reducible refine Kd.C_drew ?_))); (case side4 => exact HC0_1.out); (case side5 => repeat (first | exact (Kd.C_below HR0_3.out HB.out) | (with_reducible refine Kd.C_alloc ?_ _) | (with_reducible refine Kd.C_drewN ?_ _) | (with_reducible refine Kd.C_drew ?_))); (case side6 => exact HC0_3.out); rintro e w9 ⟨rfl, hb⟩; refine ⟨_, rfl, ?_⟩; have n0_ := Aside0.mk (blk_below (g := gb101) (o := .cells #[.slice A0_0 l0_0.length c0_0, .slice A0_1 l0_1.length c0_1, .int .i64 a0_2, .slice A0_3 l0_3.length c0_3] 25 (0, 0)) (by (with_reducible repeat (first | refine blk_drewN ?_ _ | refine blk_drew ?_ | refine blk_alloc ?_ _)); exact BK101.out) hb); have n1_ := Aside0.mk (below_step (by repeat (first | (with_reducible first | exact HB.out | apply below_alloc | apply pw_below_drewN | apply below_drew1 | refine below_set ?_ GE101.out) | exact HB.out)) hb); clear BK101; clear HB; have BK101 := n0_; have HB := n1_; clear n0_ n1_; (try clear hb); (try clear hb2); (try clear hk); (try clear hi); have hcz10_0 : w9.cell? ⟨gb101, 0, none⟩ = some (.slice A0_0 l0_0.length c0_0) := (blk_cell BK101.out 0).trans rfl; have hcz10_1 : w9.cell? ⟨gb101, 1, none⟩ = some (.slice A0_1 l0_1.length c0_1) := (blk_cell BK101.out 1).trans rfl; have hcz10_2 : w9.cell? ⟨gb101, 2, none⟩ = some (.int .i64 a0_2) := (blk_cell BK101.out 2).trans rfl; have hcz10_3 : w9.cell? ⟨gb101, 3, none⟩ = some (.slice A0_3 l0_3.length c0_3) := (blk_cell BK101.out 3).trans rfl; have hfz10_0 := blk_frozen BK101.out 0; have hfz10_1 := blk_frozen BK101.out 1; have hfz10_2 := blk_frozen BK101.out 2; have hfz10_3 := blk_frozen BK101.out 3) | (go_at_call 29; (with_reducible refine (wickerlaw02_May.calls _ _ l0_0 _ _ l0_1 a0_2 _ _ l0_3 true _ ?side1 ?side2 ?side3 ?side4 ?side5 ?side6 A6.out).mono ?_); (case side1 => repeat (first | exact (Kd.C_below HR0_0.out HB.out) | (with_reducible refine Kd.C_alloc ?_ _) | (with_reducible refine Kd.C_drewN ?_ _) | (with_reducible refine Kd.C_drew ?_))); (case side2 => exact HC0_0.out); (case side3 => repeat (first | exact (Kd.C_below HR0_1.out HB.out) | (with_reducible refine Kd.C_alloc ?_ _) | (with_reducible refine Kd.C_drewN ?_ _) | (with_reducible refine Kd.C_drew ?_))); (case side4 => exact HC0_1.out); (case side5 => repeat (first | exact (Kd.C_below HR0_3.out HB.out) | (with_reducible refine Kd.C_alloc ?_ _) | (with_reducible refine Kd.C_drewN ?_ _) | (with_reducible refine Kd.C_drew ?_))); (case side6 => exact HC0_3.out); rintro e w11 ⟨rfl, hb⟩; have n0_ := Aside0.mk (blk_below (g := gb101) (o := .cells #[.slice A0_0 l0_0.length c0_0, .slice A0_1 l0_1.length c0_1, .int .i64 a0_2, .slice A0_3 l0_3.length c0_3] 25 (0, 0)) (by (with_reducible repeat (first | refine blk_drewN ?_ _ | refine blk_drew ?_ | refine blk_alloc ?_ _)); exact BK101.out) hb); have n1_ := Aside0.mk (below_step (by repeat (first | (with_reducible first | exact HB.out | apply below_alloc | apply pw_below_drewN | apply below_drew1 | refine below_set ?_ GE101.out) | exact HB.out)) hb); clear BK101; clear HB; have BK101 := n0_; have HB := n1_; clear n0_ n1_; (try clear hb); (try clear hb2); (try clear hk); (try clear hi); have hcz12_0 : w11.cell? ⟨gb101, 0, none⟩ = some (.slice A0_0 l0_0.length c0_0) := (blk_cell BK101.out 0).trans rfl; have hcz12_1 : w11.cell? ⟨gb101, 1, none⟩ = some (.slice A0_1 l0_1.length c0_1) := (blk_cell BK101.out 1).trans rfl; have hcz12_2 : w11.cell? ⟨gb101, 2, none⟩ = some (.int .i64 a0_2) := (blk_cell BK101.out 2).trans rfl; have hcz12_3 : w11.cell? ⟨gb101, 3, none⟩ = some (.slice A0_3 l0_3.length c0_3) := (blk_cell BK101.out 3).trans rfl; have hfz12_0 := blk_frozen BK101.out 0; have hfz12_1 := blk_frozen BK101.out 1; have hfz12_2 := blk_frozen BK101.out 2; have hfz12_3 := blk_frozen BK101.out 3))
    go_meet
    case rel => exact ⟨_, (decide ((l0_0.length : Int) > 8)), (by first | rfl | (simp; done) | (simp [*]; done)), H', ⟨by first | omega | exact Nat.le_refl _⟩, ⟨by (with_reducible repeat (first | refine blk_drewN ?_ _ | refine blk_drew ?_ | refine blk_alloc ?_ _)); exact BK101.out⟩, ⟨by repeat (first | (with_reducible first | exact HB.out | apply below_alloc | apply pw_below_drewN | apply below_drew1 | refine below_set ?_ GE101.out) | exact HB.out)⟩⟩
   ·replace c7 := Bool.eq_false_iff.mpr c7
    subst c7
    have H1 : (wickerlaw10_UnitsLead.j0 k true l0_0 l0_1 a0_2 l0_3) = some r := by rw [if_neg (show ¬ (false = true) by decide)] at H; exact H
    clear H
    have H := H1
    clear H1
    have H' := Aside0.mk H
    clear H
    have hcz13_0 : w3.cell? ⟨gb101, 0, none⟩ = some (.slice A0_0 l0_0.length c0_0) := (blk_cell BK101.out 0).trans rfl
    have hcz13_1 : w3.cell? ⟨gb101, 1, none⟩ = some (.slice A0_1 l0_1.length c0_1) := (blk_cell BK101.out 1).trans rfl
    have hcz13_2 : w3.cell? ⟨gb101, 2, none⟩ = some (.int .i64 a0_2) := (blk_cell BK101.out 2).trans rfl
    have hcz13_3 : w3.cell? ⟨gb101, 3, none⟩ = some (.slice A0_3 l0_3.length c0_3) := (blk_cell BK101.out 3).trans rfl
    have hfz13_0 := blk_frozen BK101.out 0
    have hfz13_1 := blk_frozen BK101.out 1
    have hfz13_2 := blk_frozen BK101.out 2
    have hfz13_3 := blk_frozen BK101.out 3
    go_wp2_with (first | ((with_reducible refine gate_callee (f := 9) rfl ?_); refine goesL_ (some 18) rfl rfl Tryd.func9 (by kernel_rfl) rfl #[.agg #[.slice A0_0 l0_0.length c0_0, .slice A0_1 l0_1.length c0_1, .int .i64 a0_2, .slice A0_3 l0_3.length c0_3]] rfl (by (try simp only [List.map_toArray, List.map_cons, List.map_nil]); first | done | rfl | (simp only [List.length_drop, List.length_take]; rfl)) ?_; (with_reducible refine (wickerlaw02_Small.calls k _ _ l0_0 _ _ l0_1 a0_2 _ _ l0_3 true _ ?side1 ?side2 ?side3 ?side4 ?side5 ?side6 A4.out).mono ?_); (case side1 => repeat (first | exact (Kd.C_below HR0_0.out HB.out) | (with_reducible refine Kd.C_alloc ?_ _) | (with_reducible refine Kd.C_drewN ?_ _) | (with_reducible refine Kd.C_drew ?_))); (case side2 => exact HC0_0.out); (case side3 => repeat (first | exact (Kd.C_below HR0_1.out HB.out) | (with_reducible refine Kd.C_alloc ?_ _) | (with_reducible refine Kd.C_drewN ?_ _) | (with_reducible refine Kd.C_drew ?_))); (case side4 => exact HC0_1.out); (case side5 => repeat (first | exact (Kd.C_below HR0_3.out HB.out) | (with_reducible refine Kd.C_alloc ?_ _) | (with_reducible refine Kd.C_drewN ?_ _) | (with_reducible refine Kd.C_drew ?_))); (case side6 => exact HC0_3.out); rintro e w14 ⟨rfl, hb⟩; refine ⟨_, rfl, ?_⟩; have n0_ := Aside0.mk (blk_below (g := gb101) (o := .cells #[.slice A0_0 l0_0.length c0_0, .slice A0_1 l0_1.length c0_1, .int .i64 a0_2, .slice A0_3 l0_3.length c0_3] 25 (0, 0)) (by (with_reducible repeat (first | refine blk_drewN ?_ _ | refine blk_drew ?_ | refine blk_alloc ?_ _)); exact BK101.out) hb); have n1_ := Aside0.mk (below_step (by repeat (first | (with_reducible first | exact HB.out | apply below_alloc | apply pw_below_drewN | apply below_drew1 | refine below_set ?_ GE101.out) | exact HB.out)) hb); clear BK101; clear HB; have BK101 := n0_; have HB := n1_; clear n0_ n1_; (try clear hb); (try clear hb2); (try clear hk); (try clear hi); have hcz15_0 : w14.cell? ⟨gb101, 0, none⟩ = some (.slice A0_0 l0_0.length c0_0) := (blk_cell BK101.out 0).trans rfl; have hcz15_1 : w14.cell? ⟨gb101, 1, none⟩ = some (.slice A0_1 l0_1.length c0_1) := (blk_cell BK101.out 1).trans rfl; have hcz15_2 : w14.cell? ⟨gb101, 2, none⟩ = some (.int .i64 a0_2) := (blk_cell BK101.out 2).trans rfl; have hcz15_3 : w14.cell? ⟨gb101, 3, none⟩ = some (.slice A0_3 l0_3.length c0_3) := (blk_cell BK101.out 3).trans rfl; have hfz15_0 := blk_frozen BK101.out 0; have hfz15_1 := blk_frozen BK101.out 1; have hfz15_2 := blk_frozen BK101.out 2; have hfz15_3 := blk_frozen BK101.out 3) | (go_at_call 29; (with_reducible refine (wickerlaw02_May.calls _ _ l0_0 _ _ l0_1 a0_2 _ _ l0_3 false _ ?side1 ?side2 ?side3 ?side4 ?side5 ?side6 A6.out).mono ?_); (case side1 => repeat (first | exact (Kd.C_below HR0_0.out HB.out) | (with_reducible refine Kd.C_alloc ?_ _) | (with_reducible refine Kd.C_drewN ?_ _) | (with_reducible refine Kd.C_drew ?_))); (case side2 => exact HC0_0.out); (case side3 => repeat (first | exact (Kd.C_below HR0_1.out HB.out) | (with_reducible refine Kd.C_alloc ?_ _) | (with_reducible refine Kd.C_drewN ?_ _) | (with_reducible refine Kd.C_drew ?_))); (case side4 => exact HC0_1.out); (case side5 => repeat (first | exact (Kd.C_below HR0_3.out HB.out) | (with_reducible refine Kd.C_alloc ?_ _) | (with_reducible refine Kd.C_drewN ?_ _) | (with_reducible refine Kd.C_drew ?_))); (case side6 => exact HC0_3.out); rintro e w16 ⟨rfl, hb⟩; have n0_ := Aside0.mk (blk_below (g := gb101) (o := .cells #[.slice A0_0 l0_0.length c0_0, .slice A0_1 l0_1.length c0_1, .int .i64 a0_2, .slice A0_3 l0_3.length c0_3] 25 (0, 0)) (by (with_reducible repeat (first | refine blk_drewN ?_ _ | refine blk_drew ?_ | refine blk_alloc ?_ _)); exact BK101.out) hb); have n1_ := Aside0.mk (below_step (by repeat (first | (with_reducible first | exact HB.out | apply below_alloc | apply pw_below_drewN | apply below_drew1 | refine below_set ?_ GE101.out) | exact HB.out)) hb); clear BK101; clear HB; have BK101 := n0_; have HB := n1_; clear n0_ n1_; (try clear hb); (try clear hb2); (try clear hk); (try clear hi)))
    go_meet
    case rel => exact ⟨_, (true), (by first | rfl | (simp; done) | (simp [*]; done)), H', ⟨by first | omega | exact Nat.le_refl _⟩, ⟨by (with_reducible repeat (first | refine blk_drewN ?_ _ | refine blk_drew ?_ | refine blk_alloc ?_ _)); exact BK101.out⟩, ⟨by repeat (first | (with_reducible first | exact HB.out | apply below_alloc | apply pw_below_drewN | apply below_drew1 | refine below_set ?_ GE101.out) | exact HB.out)⟩⟩
  ·replace c5 := Bool.eq_false_iff.mpr c5
   subst c5
   have H1 : (wickerlaw10_UnitsLead.j0 k true l0_0 l0_1 a0_2 l0_3) = some r := by rw [if_neg (show ¬ (false = true) by decide)] at H; exact H
   clear H
   have H := H1
   clear H1
   have H' := Aside0.mk H
   clear H
   have hcz17_0 : w3.cell? ⟨gb101, 0, none⟩ = some (.slice A0_0 l0_0.length c0_0) := (blk_cell BK101.out 0).trans rfl
   have hcz17_1 : w3.cell? ⟨gb101, 1, none⟩ = some (.slice A0_1 l0_1.length c0_1) := (blk_cell BK101.out 1).trans rfl
   have hcz17_2 : w3.cell? ⟨gb101, 2, none⟩ = some (.int .i64 a0_2) := (blk_cell BK101.out 2).trans rfl
   have hcz17_3 : w3.cell? ⟨gb101, 3, none⟩ = some (.slice A0_3 l0_3.length c0_3) := (blk_cell BK101.out 3).trans rfl
   have hfz17_0 := blk_frozen BK101.out 0
   have hfz17_1 := blk_frozen BK101.out 1
   have hfz17_2 := blk_frozen BK101.out 2
   have hfz17_3 := blk_frozen BK101.out 3
   go_wp2_with (first | ((with_reducible refine gate_callee (f := 9) rfl ?_); refine goesL_ (some 18) rfl rfl Tryd.func9 (by kernel_rfl) rfl #[.agg #[.slice A0_0 l0_0.length c0_0, .slice A0_1 l0_1.length c0_1, .int .i64 a0_2, .slice A0_3 l0_3.length c0_3]] rfl (by (try simp only [List.map_toArray, List.map_cons, List.map_nil]); first | done | rfl | (simp only [List.length_drop, List.length_take]; rfl)) ?_; (with_reducible refine (wickerlaw02_Small.calls k _ _ l0_0 _ _ l0_1 a0_2 _ _ l0_3 false _ ?side1 ?side2 ?side3 ?side4 ?side5 ?side6 A4.out).mono ?_); (case side1 => repeat (first | exact (Kd.C_below HR0_0.out HB.out) | (with_reducible refine Kd.C_alloc ?_ _) | (with_reducible refine Kd.C_drewN ?_ _) | (with_reducible refine Kd.C_drew ?_))); (case side2 => exact HC0_0.out); (case side3 => repeat (first | exact (Kd.C_below HR0_1.out HB.out) | (with_reducible refine Kd.C_alloc ?_ _) | (with_reducible refine Kd.C_drewN ?_ _) | (with_reducible refine Kd.C_drew ?_))); (case side4 => exact HC0_1.out); (case side5 => repeat (first | exact (Kd.C_below HR0_3.out HB.out) | (with_reducible refine Kd.C_alloc ?_ _) | (with_reducible refine Kd.C_drewN ?_ _) | (with_reducible refine Kd.C_drew ?_))); (case side6 => exact HC0_3.out); rintro e w18 ⟨rfl, hb⟩; refine ⟨_, rfl, ?_⟩; have n0_ := Aside0.mk (blk_below (g := gb101) (o := .cells #[.slice A0_0 l0_0.length c0_0, .slice A0_1 l0_1.length c0_1, .int .i64 a0_2, .slice A0_3 l0_3.length c0_3] 25 (0, 0)) (by (with_reducible repeat (first | refine blk_drewN ?_ _ | refine blk_drew ?_ | refine blk_alloc ?_ _)); exact BK101.out) hb); have n1_ := Aside0.mk (below_step (by repeat (first | (with_reducible first | exact HB.out | apply below_alloc | apply pw_below_drewN | apply below_drew1 | refine below_set ?_ GE101.out) | exact HB.out)) hb); clear BK101; clear HB; have BK101 := n0_; have HB := n1_; clear n0_ n1_; (try clear hb); (try clear hb2); (try clear hk); (try clear hi)))
   go_meet
   case rel => exact ⟨_, (true), (by first | rfl | (simp; done) | (simp [*]; done)), H', ⟨by first | omega | exact Nat.le_refl _⟩, ⟨by (with_reducible repeat (first | refine blk_drewN ?_ _ | refine blk_drew ?_ | refine blk_alloc ?_ _)); exact BK101.out⟩, ⟨by repeat (first | (with_reducible first | exact HB.out | apply below_alloc | apply pw_below_drewN | apply below_drew1 | refine below_set ?_ GE101.out) | exact HB.out)⟩⟩
 case rest =>
  clear HC2
  try clear p2
  try clear c5
  try clear c7
  try clear c9
  try clear hcz10_0
  try clear hcz10_1
  try clear hcz10_2
  try clear hcz10_3
  try clear hcz12_0
  try clear hcz12_1
  try clear hcz12_2
  try clear hcz12_3
  try clear hcz13_0
  try clear hcz13_1
  try clear hcz13_2
  try clear hcz13_3
  try clear hcz15_0
  try clear hcz15_1
  try clear hcz15_2
  try clear hcz15_3
  try clear hcz17_0
  try clear hcz17_1
  try clear hcz17_2
  try clear hcz17_3
  try clear hcz8_0
  try clear hcz8_1
  try clear hcz8_2
  try clear hcz8_3
  try clear hfz10_0
  try clear hfz10_1
  try clear hfz10_2
  try clear hfz10_3
  try clear hfz12_0
  try clear hfz12_1
  try clear hfz12_2
  try clear hfz12_3
  try clear hfz13_0
  try clear hfz13_1
  try clear hfz13_2
  try clear hfz13_3
  try clear hfz15_0
  try clear hfz15_1
  try clear hfz15_2
  try clear hfz15_3
  try clear hfz17_0
  try clear hfz17_1
  try clear hfz17_2
  try clear hfz17_3
  try clear hfz8_0
  try clear hfz8_1
  try clear hfz8_2
  try clear hfz8_3
  obtain ⟨kq, x30_1, rfl, HA, HJ1, BK101, HB⟩ := hcut
  cases kq with
  | zero => exact absurd HA.out (by simp [wickerlaw10_UnitsLead.j0])
  | succ kj1 =>
   have H := HA.out
   clear HA
   simp only [wickerlaw10_UnitsLead.j0] at H
   by_cases c19 : x30_1 = true
   ·subst c19
    have H1 : ((wickerlaw10_Awake.f kj1).bind fun t104 => (some t104)) = some r := by rw [if_pos rfl] at H; exact H
    clear H
    have H := H1
    clear H1
    replace H := Option.bind_eq_some_iff.mp H
    obtain ⟨t104, A200, H⟩ := H
    replace H : (some t104) = some r := H
    have A20 := Aside0.mk A200
    clear A200
    obtain rfl := Option.some.inj H
    go_wp2_with (first | ((with_reducible refine gate_callee (f := 27) rfl ?_); refine goesL_ (some 31) rfl rfl Tryd.func27 (by kernel_rfl) rfl #[] rfl (by (try simp only [List.map_toArray, List.map_cons, List.map_nil]); first | done | rfl | (simp only [List.length_drop, List.length_take]; rfl)) ?_; (with_reducible refine (wickerlaw10_Awake.calls kj1  t104 _ ?side1 A20.out).mono ?_); (case side1 => exact Laid.below HG.out (by repeat (first | (with_reducible first | exact HB.out | apply below_alloc | apply pw_below_drewN | apply below_drew1 | refine below_set ?_ GE101.out) | exact HB.out))); rintro e w21 ⟨rfl, hb⟩; refine ⟨_, rfl, ?_⟩; have n0_ := Aside0.mk (blk_below (g := gb101) (o := .cells #[.slice A0_0 l0_0.length c0_0, .slice A0_1 l0_1.length c0_1, .int .i64 a0_2, .slice A0_3 l0_3.length c0_3] 25 (0, 0)) (by (with_reducible repeat (first | refine blk_drewN ?_ _ | refine blk_drew ?_ | refine blk_alloc ?_ _)); exact BK101.out) hb); have n1_ := Aside0.mk (below_step (by repeat (first | (with_reducible first | exact HB.out | apply below_alloc | apply pw_below_drewN | apply below_drew1 | refine below_set ?_ GE101.out) | exact HB.out)) hb); clear BK101; clear HB; have BK101 := n0_; have HB := n1_; clear n0_ n1_; (try clear hb); (try clear hb2); (try clear hk); (try clear hi)))
    go_ret
    exact ⟨by first | rfl | (simp [errW_none, errW_some] <;> rfl) | (simp [*, errW_none, errW_some] <;> rfl), by repeat (first | (with_reducible first | exact HB.out | apply below_alloc | apply pw_below_drewN | apply below_drew1 | refine below_set ?_ GE101.out) | exact HB.out)⟩
   ·replace c19 := Bool.eq_false_iff.mpr c19
    subst c19
    have H1 : (wickerlaw10_UnitsLead.l0 kj1 (l0_0.length : Int) 0 l0_0 l0_1 a0_2 l0_3) = some r := by rw [if_neg (show ¬ (false = true) by decide)] at H; exact H
    clear H
    have H := H1
    clear H1
    have H' := Aside0.mk H
    clear H
    have hcz22_0 : wc.cell? ⟨gb101, 0, none⟩ = some (.slice A0_0 l0_0.length c0_0) := (blk_cell BK101.out 0).trans rfl
    have hcz22_1 : wc.cell? ⟨gb101, 1, none⟩ = some (.slice A0_1 l0_1.length c0_1) := (blk_cell BK101.out 1).trans rfl
    have hcz22_2 : wc.cell? ⟨gb101, 2, none⟩ = some (.int .i64 a0_2) := (blk_cell BK101.out 2).trans rfl
    have hcz22_3 : wc.cell? ⟨gb101, 3, none⟩ = some (.slice A0_3 l0_3.length c0_3) := (blk_cell BK101.out 3).trans rfl
    have hfz22_0 := blk_frozen BK101.out 0
    have hfz22_1 := blk_frozen BK101.out 1
    have hfz22_2 := blk_frozen BK101.out 2
    have hfz22_3 := blk_frozen BK101.out 3
    go_wp2
    go_loopg [35] kj1 (fun kq v35 w' => ∃ (x35_2 : Int), v35 = .int .i64 x35_2 ∧ Aside0 (wickerlaw10_UnitsLead.l0 kq (l0_0.length : Int) x35_2 l0_0 l0_1 a0_2 l0_3 = some r) ∧ Aside0 (kq ≤ kj1) ∧ Aside0 (w'.heap[gb101]? = some (.cells #[(.slice A0_0 l0_0.length c0_0), (.slice A0_1 l0_1.length c0_1), .int .i64 a0_2, (.slice A0_3 l0_3.length c0_3)] 25 (0, 0))) ∧ Aside0 (Below w.heap.size w w'))
    case atStart => exact ⟨(0), (by first | rfl | (simp; done) | (simp [*]; done)), H', ⟨Nat.le_refl _⟩, ⟨by (with_reducible repeat (first | refine blk_drewN ?_ _ | refine blk_drew ?_ | refine blk_alloc ?_ _)); exact BK101.out⟩, ⟨by repeat (first | (with_reducible first | exact HB.out | apply below_alloc | apply pw_below_drewN | apply below_drew1 | refine below_set ?_ GE101.out) | exact HB.out)⟩⟩
    case round =>
     clear H'
     try clear c1
     try clear c2
     try clear p2
     try clear c5
     try clear c7
     try clear c9
     try clear c19
     try clear hcz10_0
     try clear hcz10_1
     try clear hcz10_2
     try clear hcz10_3
     try clear hcz12_0
     try clear hcz12_1
     try clear hcz12_2
     try clear hcz12_3
     try clear hcz13_0
     try clear hcz13_1
     try clear hcz13_2
     try clear hcz13_3
     try clear hcz15_0
     try clear hcz15_1
     try clear hcz15_2
     try clear hcz15_3
     try clear hcz17_0
     try clear hcz17_1
     try clear hcz17_2
     try clear hcz17_3
     try clear hcz22_0
     try clear hcz22_1
     try clear hcz22_2
     try clear hcz22_3
     try clear hcz8_0
     try clear hcz8_1
     try clear hcz8_2
     try clear hcz8_3
     try clear hfz10_0
     try clear hfz10_1
     try clear hfz10_2
     try clear hfz10_3
     try clear hfz12_0
     try clear hfz12_1
     try clear hfz12_2
     try clear hfz12_3
     try clear hfz13_0
     try clear hfz13_1
     try clear hfz13_2
     try clear hfz13_3
     try clear hfz15_0
     try clear hfz15_1
     try clear hfz15_2
     try clear hfz15_3
     try clear hfz17_0
     try clear hfz17_1
     try clear hfz17_2
     try clear hfz17_3
     try clear hfz22_0
     try clear hfz22_1
     try clear hfz22_2
     try clear hfz22_3
     try clear hfz8_0
     try clear hfz8_1
     try clear hfz8_2
     try clear hfz8_3
     try clear p2
     obtain ⟨x35_2, rfl, HA, HK2, BK101, HB⟩ := hrel
     cases gk with
     | zero => exact absurd HA.out (by simp [wickerlaw10_UnitsLead.l0])
     | succ k2 =>
      have H := HA.out
      clear HA
      simp only [wickerlaw10_UnitsLead.l0] at H
      by_cases c23 : x35_2 < (l0_0.length : Int)
      ·rw [if_pos c23] at H
       have c23b0 : decide (x35_2 < (l0_0.length : Int)) = true := decide_eq_true c23
       clear c23
       replace H := Option.bind_eq_some_iff.mp H
       obtain ⟨t106, A240, H⟩ := H
       replace H : (wickerlaw10_UnitsLead.l1 k2 x35_2 (l0_0.length : Int) x35_2 t106 (t106.length : Int) 0 l0_0 l0_1 a0_2 l0_3) = some r := H
       have A24 := Aside0.mk A240
       clear A240
       have H' := Aside0.mk H
       clear H
       have hcz25_0 : wr.cell? ⟨gb101, 0, none⟩ = some (.slice A0_0 l0_0.length c0_0) := (blk_cell BK101.out 0).trans rfl
       have hcz25_1 : wr.cell? ⟨gb101, 1, none⟩ = some (.slice A0_1 l0_1.length c0_1) := (blk_cell BK101.out 1).trans rfl
       have hcz25_2 : wr.cell? ⟨gb101, 2, none⟩ = some (.int .i64 a0_2) := (blk_cell BK101.out 2).trans rfl
       have hcz25_3 : wr.cell? ⟨gb101, 3, none⟩ = some (.slice A0_3 l0_3.length c0_3) := (blk_cell BK101.out 3).trans rfl
       have hfz25_0 := blk_frozen BK101.out 0
       have hfz25_1 := blk_frozen BK101.out 1
       have hfz25_2 := blk_frozen BK101.out 2
       have hfz25_3 := blk_frozen BK101.out 3
       go_wp2_with (first | ((with_reducible refine gate_callee (f := 30) rfl ?_); refine goesL_ (some 40) rfl rfl Tryd.func30 (by kernel_rfl) rfl #[.agg #[.slice A0_0 l0_0.length c0_0, .slice A0_1 l0_1.length c0_1, .int .i64 a0_2, .slice A0_3 l0_3.length c0_3], .int .i64 x35_2] rfl (by (try simp only [List.map_toArray, List.map_cons, List.map_nil]); first | done | rfl | (simp only [List.length_drop, List.length_take]; rfl)) ?_; (with_reducible refine (units_From.calls k2 _ _ l0_0 _ _ l0_1 a0_2 _ _ l0_3 x35_2 t106 _ ?side1 ?side2 ?side3 ?side4 ?side5 ?side6 ?side7 A24.out).mono ?_); (case side1 => exact Laid.below HG.out (by repeat (first | (with_reducible first | exact HB.out | apply below_alloc | apply pw_below_drewN | apply below_drew1 | refine below_set ?_ GE101.out) | exact HB.out))); (case side2 => repeat (first | exact (Kd.C_below HR0_0.out HB.out) | (with_reducible refine Kd.C_alloc ?_ _) | (with_reducible refine Kd.C_drewN ?_ _) | (with_reducible refine Kd.C_drew ?_))); (case side3 => exact HC0_0.out); (case side4 => repeat (first | exact (Kd.C_below HR0_1.out HB.out) | (with_reducible refine Kd.C_alloc ?_ _) | (with_reducible refine Kd.C_drewN ?_ _) | (with_reducible refine Kd.C_drew ?_))); (case side5 => exact HC0_1.out); (case side6 => repeat (first | exact (Kd.C_below HR0_3.out HB.out) | (with_reducible refine Kd.C_alloc ?_ _) | (with_reducible refine Kd.C_drewN ?_ _) | (with_reducible refine Kd.C_drew ?_))); (case side7 => exact HC0_3.out); rintro e w26 ⟨v107, rfl, ho0, hb⟩; refine ⟨_, rfl, ?_⟩; have n0_ := Aside0.mk (Kd.R_lower ho0 (below_size (by repeat (first | (with_reducible first | exact HB.out | apply below_alloc | apply pw_below_drewN | apply below_drew1 | refine below_set ?_ GE101.out) | exact HB.out)))); have n1_ := Aside0.mk (blk_below (g := gb101) (o := .cells #[.slice A0_0 l0_0.length c0_0, .slice A0_1 l0_1.length c0_1, .int .i64 a0_2, .slice A0_3 l0_3.length c0_3] 25 (0, 0)) (by (with_reducible repeat (first | refine blk_drewN ?_ _ | refine blk_drew ?_ | refine blk_alloc ?_ _)); exact BK101.out) hb); have n2_ := Aside0.mk (below_step (by repeat (first | (with_reducible first | exact HB.out | apply below_alloc | apply pw_below_drewN | apply below_drew1 | refine below_set ?_ GE101.out) | exact HB.out)) hb); clear BK101; clear HB; have HO108 := n0_; have BK101 := n1_; have HB := n2_; clear n0_ n1_ n2_; (try clear hb); (try clear hb2); (try clear hk); (try clear hi); (try clear ho0); obtain ⟨Ao27, co27, eo27⟩ := Kd.R_slice HO108.out; subst eo27))
       go_loopg [42] k2 (fun kq v42 w' => ∃ (x42_3 : Int), v42 = .int .i64 x42_3 ∧ Aside0 (wickerlaw10_UnitsLead.l1 kq x35_2 (l0_0.length : Int) x35_2 t106 (t106.length : Int) x42_3 l0_0 l0_1 a0_2 l0_3 = some r) ∧ Aside0 (kq ≤ k2) ∧ Aside0 (Kd.R (Kd.int .i64) 3 w' w.heap.size (fun _ => True) (.slice Ao27 t106.length co27) t106) ∧ Aside0 (w'.heap[gb101]? = some (.cells #[(.slice A0_0 l0_0.length c0_0), (.slice A0_1 l0_1.length c0_1), .int .i64 a0_2, (.slice A0_3 l0_3.length c0_3)] 25 (0, 0))) ∧ Aside0 (Below w.heap.size w w'))
       case atStart => exact ⟨(0), (by first | rfl | (simp; done) | (simp [*]; done)), H', ⟨Nat.le_refl _⟩, ⟨by (with_reducible repeat (first | apply Kd.R_alloc | apply Kd.R_drewN | apply Kd.R_drew)); exact HO108.out⟩, ⟨by (with_reducible repeat (first | refine blk_drewN ?_ _ | refine blk_drew ?_ | refine blk_alloc ?_ _)); exact BK101.out⟩, ⟨by repeat (first | (with_reducible first | exact HB.out | apply below_alloc | apply pw_below_drewN | apply below_drew1 | refine below_set ?_ GE101.out) | exact HB.out)⟩⟩
       case round =>
        clear H'
        try clear c1
        try clear c2
        try clear p2
        try clear c3
        try clear c5
        try clear c7
        try clear c9
        try clear c19
        try clear c23
        try clear c23b0
        try clear c27
        try clear hcz10_0
        try clear hcz10_1
        try clear hcz10_2
        try clear hcz10_3
        try clear hcz12_0
        try clear hcz12_1
        try clear hcz12_2
        try clear hcz12_3
        try clear hcz13_0
        try clear hcz13_1
        try clear hcz13_2
        try clear hcz13_3
        try clear hcz15_0
        try clear hcz15_1
        try clear hcz15_2
        try clear hcz15_3
        try clear hcz17_0
        try clear hcz17_1
        try clear hcz17_2
        try clear hcz17_3
        try clear hcz22_0
        try clear hcz22_1
        try clear hcz22_2
        try clear hcz22_3
        try clear hcz25_0
        try clear hcz25_1
        try clear hcz25_2
        try clear hcz25_3
        try clear hcz8_0
        try clear hcz8_1
        try clear hcz8_2
        try clear hcz8_3
        try clear hfz10_0
        try clear hfz10_1
        try clear hfz10_2
        try clear hfz10_3
        try clear hfz12_0
        try clear hfz12_1
        try clear hfz12_2
        try clear hfz12_3
        try clear hfz13_0
        try clear hfz13_1
        try clear hfz13_2
        try clear hfz13_3
        try clear hfz15_0
        try clear hfz15_1
        try clear hfz15_2
        try clear hfz15_3
        try clear hfz17_0
        try clear hfz17_1
        try clear hfz17_2
        try clear hfz17_3
        try clear hfz22_0
        try clear hfz22_1
        try clear hfz22_2
        try clear hfz22_3
        try clear hfz25_0
        try clear hfz25_1
        try clear hfz25_2
        try clear hfz25_3
        try clear hfz8_0
        try clear hfz8_1
        try clear hfz8_2
        try clear hfz8_3
        try clear p2
        obtain ⟨x42_3, rfl, HA, HK3, HO_40, BK101, HB⟩ := hrel
        cases gk with
        | zero => exact absurd HA.out (by simp [wickerlaw10_UnitsLead.l1])
        | succ k3 =>
         have H := HA.out
         clear HA
         simp only [wickerlaw10_UnitsLead.l1] at H
         by_cases c28 : x42_3 < (t106.length : Int)
         ·rw [if_pos c28] at H
          have c28b0 : decide (x42_3 < (t106.length : Int)) = true := decide_eq_true c28
          clear c28
          by_cases c29 : 0 ≤ x42_3
          ·rw [if_pos c29] at H
           have c29b0 : decide (0 ≤ x42_3) = true := decide_eq_true c29
           clear c29
           by_cases c30 : x42_3 < (t106.length : Int)
           ·rw [if_pos c30] at H
            have c30b0 : decide (x42_3 < (t106.length : Int)) = true := decide_eq_true c30
            clear c30
            replace H := Option.bind_eq_some_iff.mp H
            obtain ⟨⟨t110, t113⟩, A310, H⟩ := H
            replace H : (wickerlaw10_UnitsLead.l2 k3 x35_2 (rd t106 x42_3) t110 t113 x35_2 (l0_0.length : Int) x35_2 t106 (t106.length : Int) x42_3 t110 (t110.length : Int) 0 l0_0 l0_1 a0_2 l0_3) = some r := H
            have A31 := Aside0.mk A310
            clear A310
            have H' := Aside0.mk H
            clear H
            have p109 : 0 ≤ (x42_3 : Int) := of_decide_eq_true (by first | (with_reducible assumption) | assumption)
            have q109 : x42_3 < (t106.length : Int) := of_decide_eq_true (by first | (with_reducible assumption) | assumption)
            obtain ⟨ad109, e109, hx109_0⟩ := Kd.at_int (Kd.R_reads' HO_40.out).2.2 x42_3 p109 q109
            cases e109
            replace p109 := eq_true p109
            replace q109 := eq_true q109
            have hcz32_0 : wr.cell? ⟨gb101, 0, none⟩ = some (.slice A0_0 l0_0.length c0_0) := (blk_cell BK101.out 0).trans rfl
            have hcz32_1 : wr.cell? ⟨gb101, 1, none⟩ = some (.slice A0_1 l0_1.length c0_1) := (blk_cell BK101.out 1).trans rfl
            have hcz32_2 : wr.cell? ⟨gb101, 2, none⟩ = some (.int .i64 a0_2) := (blk_cell BK101.out 2).trans rfl
            have hcz32_3 : wr.cell? ⟨gb101, 3, none⟩ = some (.slice A0_3 l0_3.length c0_3) := (blk_cell BK101.out 3).trans rfl
            have hfz32_0 := blk_frozen BK101.out 0
            have hfz32_1 := blk_frozen BK101.out 1
            have hfz32_2 := blk_frozen BK101.out 2
            have hfz32_3 := blk_frozen BK101.out 3
            go_wp2_with (first | ((with_reducible refine gate_callee (f := 28) rfl ?_); refine goesL_ (some 50) rfl rfl Tryd.func28 (by kernel_rfl) rfl #[.agg #[.slice A0_0 l0_0.length c0_0, .slice A0_1 l0_1.length c0_1, .int .i64 a0_2, .slice A0_3 l0_3.length c0_3], .int .i64 x35_2, .int .i64 (rd t106 x42_3)] rfl (by (try simp only [List.map_toArray, List.map_cons, List.map_nil]); first | done | rfl | (simp only [List.length_drop, List.length_take]; rfl)) ?_; (with_reducible refine (units_Chain.calls k3 _ _ l0_0 _ _ l0_1 a0_2 _ _ l0_3 x35_2 (rd t106 x42_3) t110 t113 _ ?side1 ?side2 ?side3 ?side4 ?side5 ?side6 ?side7 A31.out).mono ?_); (case side1 => exact Laid.below HG.out (by repeat (first | (with_reducible first | exact HB.out | apply below_alloc | apply pw_below_drewN | apply below_drew1 | refine below_set ?_ GE101.out) | exact HB.out))); (case side2 => repeat (first | exact (Kd.C_below HR0_0.out HB.out) | (with_reducible refine Kd.C_alloc ?_ _) | (with_reducible refine Kd.C_drewN ?_ _) | (with_reducible refine Kd.C_drew ?_))); (case side3 => exact HC0_0.out); (case side4 => repeat (first | exact (Kd.C_below HR0_1.out HB.out) | (with_reducible refine Kd.C_alloc ?_ _) | (with_reducible refine Kd.C_drewN ?_ _) | (with_reducible refine Kd.C_drew ?_))); (case side5 => exact HC0_1.out); (case side6 => repeat (first | exact (Kd.C_below HR0_3.out HB.out) | (with_reducible refine Kd.C_alloc ?_ _) | (with_reducible refine Kd.C_drewN ?_ _) | (with_reducible refine Kd.C_drew ?_))); (case side7 => exact HC0_3.out); rintro e w33 ⟨v111, rfl, ho0, hb⟩; refine ⟨_, rfl, ?_⟩; have n0_ := Aside0.mk (Kd.R_elder' (by (with_reducible repeat (first | apply Kd.R_alloc | apply Kd.R_drewN | apply Kd.R_drew)); exact HO_40.out) (Kd.R_base ho0) hb); have n1_ := Aside0.mk (Kd.R_lower (Kd.R_new' ho0 (Kd.R_lt (by (with_reducible repeat (first | apply Kd.R_alloc | apply Kd.R_drewN | apply Kd.R_drew)); exact HO_40.out))) (below_size (by repeat (first | (with_reducible first | exact HB.out | apply below_alloc | apply pw_below_drewN | apply below_drew1 | refine below_set ?_ GE101.out) | exact HB.out)))); have n2_ := Aside0.mk (blk_below (g := gb101) (o := .cells #[.slice A0_0 l0_0.length c0_0, .slice A0_1 l0_1.length c0_1, .int .i64 a0_2, .slice A0_3 l0_3.length c0_3] 25 (0, 0)) (by (with_reducible repeat (first | refine blk_drewN ?_ _ | refine blk_drew ?_ | refine blk_alloc ?_ _)); exact BK101.out) hb); have n3_ := Aside0.mk (below_step (by repeat (first | (with_reducible first | exact HB.out | apply below_alloc | apply pw_below_drewN | apply below_drew1 | refine below_set ?_ GE101.out) | exact HB.out)) hb); clear HO_40; clear BK101; clear HB; have HO_40 := n0_; have HO112 := n1_; have BK101 := n2_; have HB := n3_; clear n0_ n1_ n2_ n3_; (try clear hb); (try clear hb2); (try clear hk); (try clear hi); (try clear ho0); obtain ⟨Ao34, co34, eo34⟩ := Kd.R_slice HO112.out; subst eo34))
            go_loopg [8, 56] k3 (fun kq v8 v56 w' => ∃ (x8_4 : Int) (x56_4 : Int), v8 = .int .i64 x8_4 ∧ v56 = .int .i64 x56_4 ∧ Aside0 (wickerlaw10_UnitsLead.l2 kq x35_2 (rd t106 x42_3) t110 t113 x8_4 (l0_0.length : Int) x35_2 t106 (t106.length : Int) x42_3 t110 (t110.length : Int) x56_4 l0_0 l0_1 a0_2 l0_3 = some r) ∧ Aside0 (kq ≤ k3) ∧ Aside0 (Kd.R (Kd.int .i64) 3 w' w.heap.size (fun k_ => some k_ ≠ ((.slice (some ad109) t106.length co27) : Value).ownBlock) (.slice Ao34 t110.length co34) t110) ∧ Aside0 (Kd.R (Kd.int .i64) 3 w' w.heap.size (fun k_ => some k_ ≠ ((.slice Ao34 t110.length co34) : Value).ownBlock ∧ some k_ ≠ ((.slice Ao34 t110.length co34) : Value).ownBlock) (.slice (some ad109) t106.length co27) t106) ∧ Aside0 (Kd.R (Kd.int .i64) 3 w' w.heap.size (fun k_ => some k_ ≠ ((.slice (some ad109) t106.length co27) : Value).ownBlock) (.slice Ao34 t110.length co34) t110) ∧ Aside0 (w'.heap[gb101]? = some (.cells #[(.slice A0_0 l0_0.length c0_0), (.slice A0_1 l0_1.length c0_1), .int .i64 a0_2, (.slice A0_3 l0_3.length c0_3)] 25 (0, 0))) ∧ Aside0 (Below w.heap.size w w'))
            case atStart => exact ⟨(x35_2), (0), (by first | rfl | (simp; done) | (simp [*]; done)), (by first | rfl | (simp; done) | (simp [*]; done)), H', ⟨Nat.le_refl _⟩, ⟨by (with_reducible repeat (first | apply Kd.R_alloc | apply Kd.R_drewN | apply Kd.R_drew)); exact Kd.R_mono HO112.out (fun _ hk => hk.2)⟩, ⟨by (with_reducible repeat (first | apply Kd.R_alloc | apply Kd.R_drewN | apply Kd.R_drew)); exact Kd.R_mono HO_40.out (fun _ hk => ⟨hk.2, hk.2⟩)⟩, ⟨by (with_reducible repeat (first | apply Kd.R_alloc | apply Kd.R_drewN | apply Kd.R_drew)); exact Kd.R_mono HO112.out (fun _ hk => hk.2)⟩, ⟨by (with_reducible repeat (first | refine blk_drewN ?_ _ | refine blk_drew ?_ | refine blk_alloc ?_ _)); exact BK101.out⟩, ⟨by repeat (first | (with_reducible first | exact HB.out | apply below_alloc | apply pw_below_drewN | apply below_drew1 | refine below_set ?_ GE101.out) | exact HB.out)⟩⟩
            case round =>
             clear H'
             try clear c1
             try clear p1
             try clear q1
             try clear hx1
             try clear c2
             try clear p2
             try clear c3
             try clear c5
             try clear c7
             try clear c9
             try clear p10
             try clear q10
             try clear hx10
             try clear c19
             try clear c23
             try clear c23b0
             try clear c27
             try clear c28
             try clear c28b0
             try clear c29
             try clear c29b0
             try clear c30
             try clear c30b0
             try clear hcz10_0
             try clear hcz10_1
             try clear hcz10_2
             try clear hcz10_3
             try clear hcz12_0
             try clear hcz12_1
             try clear hcz12_2
             try clear hcz12_3
             try clear hcz13_0
             try clear hcz13_1
             try clear hcz13_2
             try clear hcz13_3
             try clear hcz15_0
             try clear hcz15_1
             try clear hcz15_2
             try clear hcz15_3
             try clear hcz17_0
             try clear hcz17_1
             try clear hcz17_2
             try clear hcz17_3
             try clear hcz22_0
             try clear hcz22_1
             try clear hcz22_2
             try clear hcz22_3
             try clear hcz25_0
             try clear hcz25_1
             try clear hcz25_2
             try clear hcz25_3
             try clear hcz32_0
             try clear hcz32_1
             try clear hcz32_2
             try clear hcz32_3
             try clear hcz8_0
             try clear hcz8_1
             try clear hcz8_2
             try clear hcz8_3
             try clear hfz10_0
             try clear hfz10_1
             try clear hfz10_2
             try clear hfz10_3
             try clear hfz12_0
             try clear hfz12_1
             try clear hfz12_2
             try clear hfz12_3
             try clear hfz13_0
             try clear hfz13_1
             try clear hfz13_2
             try clear hfz13_3
             try clear hfz15_0
             try clear hfz15_1
             try clear hfz15_2
             try clear hfz15_3
             try clear hfz17_0
             try clear hfz17_1
             try clear hfz17_2
             try clear hfz17_3
             try clear hfz22_0
             try clear hfz22_1
             try clear hfz22_2
             try clear hfz22_3
             try clear hfz25_0
             try clear hfz25_1
             try clear hfz25_2
             try clear hfz25_3
             try clear hfz32_0
             try clear hfz32_1
             try clear hfz32_2
             try clear hfz32_3
             try clear hfz8_0
             try clear hfz8_1
             try clear hfz8_2
             try clear hfz8_3
             try clear hx109_0
             try clear p109
             try clear p2
             try clear q109
             obtain ⟨x8_4, x56_4, rfl, rfl, HA, HK4, HO_6, HO_40, HO_54, BK101, HB⟩ := hrel
             cases gk with
             | zero => exact absurd HA.out (by simp [wickerlaw10_UnitsLead.l2])
             | succ k4 =>
              have H := HA.out
              clear HA
              simp only [wickerlaw10_UnitsLead.l2] at H
              by_cases c35 : x56_4 < (t110.length : Int)
              ·rw [if_pos c35] at H
               have c35b0 : decide (x56_4 < (t110.length : Int)) = true := decide_eq_true c35
               clear c35
               by_cases c36 : 0 ≤ x56_4
               ·rw [if_pos c36] at H
                have c36b0 : decide (0 ≤ x56_4) = true := decide_eq_true c36
                clear c36
                by_cases c37 : x56_4 < (t110.length : Int)
                ·rw [if_pos c37] at H
                 have c37b0 : decide (x56_4 < (t110.length : Int)) = true := decide_eq_true c37
                 clear c37
                 by_cases c38 : (rd t110 x56_4) < 0
                 ·rw [if_pos c38] at H
                  have c38b0 : decide ((rd t110 x56_4) < 0) = true := decide_eq_true c38
                  clear c38
                  obtain rfl := Option.some.inj H
                  have p114 : 0 ≤ (x56_4 : Int) := of_decide_eq_true (by first | (with_reducible assumption) | assumption)
                  have q114 : x56_4 < (t110.length : Int) := of_decide_eq_true (by first | (with_reducible assumption) | assumption)
                  obtain ⟨ad114, e114, hx114_0⟩ := Kd.at_int (Kd.R_reads' HO_54.out).2.2 x56_4 p114 q114
                  cases e114
                  replace p114 := eq_true p114
                  replace q114 := eq_true q114
                  go_wp2
                  go_ret
                  exact ⟨by first | rfl | (simp [errW_none, errW_some] <;> rfl) | (simp [*, errW_none, errW_some] <;> rfl), by repeat (first | (with_reducible first | exact HB.out | apply below_alloc | apply pw_below_drewN | apply below_drew1 | refine below_set ?_ GE101.out) | exact HB.out)⟩
                 ·rw [if_neg c38] at H
                  have c38b0 : decide ((rd t110 x56_4) < 0) = false := decide_eq_false c38
                  clear c38
                  by_cases c39 : (rd t110 x56_4) ≥ (l0_3.length : Int)
                  ·rw [if_pos c39] at H
                   have c39b0 : decide ((l0_3.length : Int) ≤ (rd t110 x56_4)) = true := decide_eq_true c39
                   clear c39
                   obtain rfl := Option.some.inj H
                   have p114 : 0 ≤ (x56_4 : Int) := of_decide_eq_true (by first | (with_reducible assumption) | assumption)
                   have q114 : x56_4 < (t110.length : Int) := of_decide_eq_true (by first | (with_reducible assumption) | assumption)
                   obtain ⟨ad114, e114, hx114_0⟩ := Kd.at_int (Kd.R_reads' HO_54.out).2.2 x56_4 p114 q114
                   cases e114
                   replace p114 := eq_true p114
                   replace q114 := eq_true q114
                   have hcz40_0 : wr.cell? ⟨gb101, 0, none⟩ = some (.slice A0_0 l0_0.length c0_0) := (blk_cell BK101.out 0).trans rfl
                   have hcz40_1 : wr.cell? ⟨gb101, 1, none⟩ = some (.slice A0_1 l0_1.length c0_1) := (blk_cell BK101.out 1).trans rfl
                   have hcz40_2 : wr.cell? ⟨gb101, 2, none⟩ = some (.int .i64 a0_2) := (blk_cell BK101.out 2).trans rfl
                   have hcz40_3 : wr.cell? ⟨gb101, 3, none⟩ = some (.slice A0_3 l0_3.length c0_3) := (blk_cell BK101.out 3).trans rfl
                   have hfz40_0 := blk_frozen BK101.out 0
                   have hfz40_1 := blk_frozen BK101.out 1
                   have hfz40_2 := blk_frozen BK101.out 2
                   have hfz40_3 := blk_frozen BK101.out 3
                   go_wp2
                   go_ret
                   exact ⟨by first | rfl | (simp [errW_none, errW_some] <;> rfl) | (simp [*, errW_none, errW_some] <;> rfl), by repeat (first | (with_reducible first | exact HB.out | apply below_alloc | apply pw_below_drewN | apply below_drew1 | refine below_set ?_ GE101.out) | exact HB.out)⟩
                  ·rw [if_neg c39] at H
                   have c39b0 : decide ((l0_3.length : Int) ≤ (rd t110 x56_4)) = false := decide_eq_false c39
                   clear c39
                   by_cases c41 : 0 ≤ (rd t110 x56_4)
                   ·rw [if_pos c41] at H
                    have c41b0 : decide (0 ≤ (rd t110 x56_4)) = true := decide_eq_true c41
                    clear c41
                    by_cases c42 : (rd t110 x56_4) < (l0_3.length : Int)
                    ·rw [if_pos c42] at H
                     have c42b0 : decide ((rd t110 x56_4) < (l0_3.length : Int)) = true := decide_eq_true c42
                     clear c42
                     by_cases c43 : ((rd_T35 l0_3 (rd t110 x56_4)).f0) = x8_4
                     ·rw [if_pos c43] at H
                      have c43b0 : (((rd_T35 l0_3 (rd t110 x56_4)).f0) == x8_4) = true := beq_iff_eq.mpr c43
                      have c43b1 : (((rd_T35 l0_3 (rd t110 x56_4)).f0) != x8_4) = false := bne_eq_false_iff_eq.mpr c43
                      clear c43
                      by_cases c44 : (((rd_T35 l0_3 (rd t110 x56_4)).f1).length : Int) = 1
                      ·rw [if_pos c44] at H
                       have c44b0 : ((((rd_T35 l0_3 (rd t110 x56_4)).f1).length : Int) == 1) = true := beq_iff_eq.mpr c44
                       have c44b1 : ((((rd_T35 l0_3 (rd t110 x56_4)).f1).length : Int) != 1) = false := bne_eq_false_iff_eq.mpr c44
                       clear c44
                       by_cases c45 : 0 < (((rd_T35 l0_3 (rd t110 x56_4)).f1).length : Int)
                       ·rw [if_pos c45] at H
                        have c45b0 : decide (0 < (((rd_T35 l0_3 (rd t110 x56_4)).f1).length : Int)) = true := decide_eq_true c45
                        have c45b1 : decide (0 < ((rd_T35 l0_3 (rd t110 x56_4)).f1).length) = true := decide_eq_true (by omega)
                        clear c45
                        replace H := Option.bind_eq_some_iff.mp H
                        obtain ⟨t119, A460, H⟩ := H
                        replace H : (if t119 = true then (some false) else ((gram_Sym_Place.f (rd ((rd_T35 l0_3 (rd t110 x56_4)).f1) 0)).bind fun t122 => (wickerlaw10_UnitsLead.l2 k4 x35_2 (rd t106 x42_3) t110 t113 t122 (l0_0.length : Int) x35_2 t106 (t106.length : Int) x42_3 t110 (t110.length : Int) (wrap64 (x56_4 + 1)) l0_0 l0_1 a0_2 l0_3))) = some r := H
                        have A46 := Aside0.mk A460
                        clear A460
                        by_cases c47 : t119 = true
                        ·subst c47
                         have H1 : (some false) = some r := by rw [if_pos rfl] at H; exact H
                         clear H
                         have H := H1
                         clear H1
                         obtain rfl := Option.some.inj H
                         have p114 : 0 ≤ (x56_4 : Int) := of_decide_eq_true (by first | (with_reducible assumption) | assumption)
                         have q114 : x56_4 < (t110.length : Int) := of_decide_eq_true (by first | (with_reducible assumption) | assumption)
                         obtain ⟨ad114, e114, hx114_0⟩ := Kd.at_int (Kd.R_reads' HO_54.out).2.2 x56_4 p114 q114
                         cases e114
                         replace p114 := eq_true p114
                         replace q114 := eq_true q114
                         have hcz48_0 : wr.cell? ⟨gb101, 0, none⟩ = some (.slice A0_0 l0_0.length c0_0) := (blk_cell BK101.out 0).trans rfl
                         have hcz48_1 : wr.cell? ⟨gb101, 1, none⟩ = some (.slice A0_1 l0_1.length c0_1) := (blk_cell BK101.out 1).trans rfl
                         have hcz48_2 : wr.cell? ⟨gb101, 2, none⟩ = some (.int .i64 a0_2) := (blk_cell BK101.out 2).trans rfl
                         have hcz48_3 : wr.cell? ⟨gb101, 3, none⟩ = some (.slice A0_3 l0_3.length c0_3) := (blk_cell BK101.out 3).trans rfl
                         have hfz48_0 := blk_frozen BK101.out 0
                         have hfz48_1 := blk_frozen BK101.out 1
                         have hfz48_2 := blk_frozen BK101.out 2
                         have hfz48_3 := blk_frozen BK101.out 3
                         have p115 : 0 ≤ ((rd t110 x56_4) : Int) := of_decide_eq_true (by first | (with_reducible assumption) | assumption)
                         have q115 : (rd t110 x56_4) < (l0_3.length : Int) := of_decide_eq_true (by first | (with_reducible assumption) | assumption)
                         obtain ⟨ad115, A115_1, c115_1, e115, hx115_0, hx115_1, hl115_1, hi115_1⟩ := at_T35 HR0_3.out (rd t110 x56_4) p115 q115
                         cases e115
                         replace hx115_0 := (HB.out.cell (World.block_lt_of_cell? w _ hx115_0)).trans hx115_0
                         replace hx115_1 := (HB.out.cell (World.block_lt_of_cell? w _ hx115_1)).trans hx115_1
                         have HR115_1 := Aside0.mk hi115_1
                         have HC115_1 := Aside0.mk hl115_1
                         clear hi115_1 hl115_1
                         replace p115 := eq_true p115
                         replace q115 := eq_true q115
                         have p116 : 0 ≤ ((rd t110 x56_4) : Int) := of_decide_eq_true (by first | (with_reducible assumption) | assumption)
                         have q116 : (rd t110 x56_4) < (l0_3.length : Int) := of_decide_eq_true (by first | (with_reducible assumption) | assumption)
                         obtain ⟨ad116, A116_1, c116_1, e116, hx116_0, hx116_1, hl116_1, hi116_1⟩ := at_T35 HR0_3.out (rd t110 x56_4) p116 q116
                         obtain rfl : ad115 = ad116 := (by injection e116)
                         replace hx116_0 := (HB.out.cell (World.block_lt_of_cell? w _ hx116_0)).trans hx116_0
                         replace hx116_1 := (HB.out.cell (World.block_lt_of_cell? w _ hx116_1)).trans hx116_1
                         have HR116_1 := Aside0.mk hi116_1
                         have HC116_1 := Aside0.mk hl116_1
                         clear hi116_1 hl116_1
                         replace p116 := eq_true p116
                         replace q116 := eq_true q116
                         have ea_ := Option.some.inj (hx115_1.symm.trans hx116_1)
                         injection ea_ with ea_ en_ ec_
                         subst ea_
                         subst ec_
                         clear en_
                         have p117 : 0 ≤ ((rd t110 x56_4) : Int) := of_decide_eq_true (by first | (with_reducible assumption) | assumption)
                         have q117 : (rd t110 x56_4) < (l0_3.length : Int) := of_decide_eq_true (by first | (with_reducible assumption) | assumption)
                         obtain ⟨ad117, A117_1, c117_1, e117, hx117_0, hx117_1, hl117_1, hi117_1⟩ := at_T35 HR0_3.out (rd t110 x56_4) p117 q117
                         obtain rfl : ad115 = ad117 := (by injection e117)
                         replace hx117_0 := (HB.out.cell (World.block_lt_of_cell? w _ hx117_0)).trans hx117_0
                         replace hx117_1 := (HB.out.cell (World.block_lt_of_cell? w _ hx117_1)).trans hx117_1
                         have HR117_1 := Aside0.mk hi117_1
                         have HC117_1 := Aside0.mk hl117_1
                         clear hi117_1 hl117_1
                         replace p117 := eq_true p117
                         replace q117 := eq_true q117
                         have ea_ := Option.some.inj (hx115_1.symm.trans hx117_1)
                         injection ea_ with ea_ en_ ec_
                         subst ea_
                         subst ec_
                         clear en_
                         have p118 : 0 ≤ (0 : Int) := (by omega)
                         have q118 : 0 < (((rd_T35 l0_3 (rd t110 x56_4)).f1).length : Int) := of_decide_eq_true (by first | (with_reducible assumption) | assumption)
                         obtain ⟨ad118, e118, hx118_0⟩ := Kd.at_int HR117_1.out 0 p118 q118
                         cases e118
                         have qi118 : (0 < ((rd_T35 l0_3 (rd t110 x56_4)).f1).length) = True := eq_true (by omega)
                         (try rw [show ((0 : Int)).toNat = 0 from rfl] at hx118_0)
                         (try rw [Addr.add_zero'] at hx118_0)
                         replace hx118_0 := (HB.out.cell (World.block_lt_of_cell? w _ hx118_0)).trans hx118_0
                         replace p118 := eq_true p118
                         replace q118 := eq_true q118
                         go_wp2_with (first | (go_at_call 33; (with_reducible refine (gram_Sym_IsTerm.calls (rd ((rd_T35 l0_3 (rd t110 x56_4)).f1) 0) true _ A46.out).mono ?_); rintro e w' ⟨rfl, ⟨nd, rfl⟩⟩))
                         go_ret
                         exact ⟨by first | rfl | (simp [errW_none, errW_some] <;> rfl) | (simp [*, errW_none, errW_some] <;> rfl), by repeat (first | (with_reducible first | exact HB.out | apply below_alloc | apply pw_below_drewN | apply below_drew1 | refine below_set ?_ GE101.out) | exact HB.out)⟩
                        ·replace c47 := Bool.eq_false_iff.mpr c47
                         subst c47
                         have H1 : ((gram_Sym_Place.f (rd ((rd_T35 l0_3 (rd t110 x56_4)).f1) 0)).bind fun t122 => (wickerlaw10_UnitsLead.l2 k4 x35_2 (rd t106 x42_3) t110 t113 t122 (l0_0.length : Int) x35_2 t106 (t106.length : Int) x42_3 t110 (t110.length : Int) (wrap64 (x56_4 + 1)) l0_0 l0_1 a0_2 l0_3)) = some r := by rw [if_neg (show ¬ (false = true) by decide)] at H; exact H
                         clear H
                         have H := H1
                         clear H1
                         replace H := Option.bind_eq_some_iff.mp H
                         obtain ⟨t122, A490, H⟩ := H
                         replace H : (wickerlaw10_UnitsLead.l2 k4 x35_2 (rd t106 x42_3) t110 t113 t122 (l0_0.length : Int) x35_2 t106 (t106.length : Int) x42_3 t110 (t110.length : Int) (wrap64 (x56_4 + 1)) l0_0 l0_1 a0_2 l0_3) = some r := H
                         have A49 := Aside0.mk A490
                         clear A490
                         have H' := Aside0.mk H
                         clear H
                         have p114 : 0 ≤ (x56_4 : Int) := of_decide_eq_true (by first | (with_reducible assumption) | assumption)
                         have q114 : x56_4 < (t110.length : Int) := of_decide_eq_true (by first | (with_reducible assumption) | assumption)
                         obtain ⟨ad114, e114, hx114_0⟩ := Kd.at_int (Kd.R_reads' HO_54.out).2.2 x56_4 p114 q114
                         cases e114
                         replace p114 := eq_true p114
                         replace q114 := eq_true q114
                         have hcz50_0 : wr.cell? ⟨gb101, 0, none⟩ = some (.slice A0_0 l0_0.length c0_0) := (blk_cell BK101.out 0).trans rfl
                         have hcz50_1 : wr.cell? ⟨gb101, 1, none⟩ = some (.slice A0_1 l0_1.length c0_1) := (blk_cell BK101.out 1).trans rfl
                         have hcz50_2 : wr.cell? ⟨gb101, 2, none⟩ = some (.int .i64 a0_2) := (blk_cell BK101.out 2).trans rfl
                         have hcz50_3 : wr.cell? ⟨gb101, 3, none⟩ = some (.slice A0_3 l0_3.length c0_3) := (blk_cell BK101.out 3).trans rfl
                         have hfz50_0 := blk_frozen BK101.out 0
                         have hfz50_1 := blk_frozen BK101.out 1
                         have hfz50_2 := blk_frozen BK101.out 2
                         have hfz50_3 := blk_frozen BK101.out 3
                         have p115 : 0 ≤ ((rd t110 x56_4) : Int) := of_decide_eq_true (by first | (with_reducible assumption) | assumption)
                         have q115 : (rd t110 x56_4) < (l0_3.length : Int) := of_decide_eq_true (by first | (with_reducible assumption) | assumption)
                         obtain ⟨ad115, A115_1, c115_1, e115, hx115_0, hx115_1, hl115_1, hi115_1⟩ := at_T35 HR0_3.out (rd t110 x56_4) p115 q115
                         cases e115
                         replace hx115_0 := (HB.out.cell (World.block_lt_of_cell? w _ hx115_0)).trans hx115_0
                         replace hx115_1 := (HB.out.cell (World.block_lt_of_cell? w _ hx115_1)).trans hx115_1
                         have HR115_1 := Aside0.mk hi115_1
                         have HC115_1 := Aside0.mk hl115_1
                         clear hi115_1 hl115_1
                         replace p115 := eq_true p115
                         replace q115 := eq_true q115
                         have p116 : 0 ≤ ((rd t110 x56_4) : Int) := of_decide_eq_true (by first | (with_reducible assumption) | assumption)
                         have q116 : (rd t110 x56_4) < (l0_3.length : Int) := of_decide_eq_true (by first | (with_reducible assumption) | assumption)
                         obtain ⟨ad116, A116_1, c116_1, e116, hx116_0, hx116_1, hl116_1, hi116_1⟩ := at_T35 HR0_3.out (rd t110 x56_4) p116 q116
                         obtain rfl : ad115 = ad116 := (by injection e116)
                         replace hx116_0 := (HB.out.cell (World.block_lt_of_cell? w _ hx116_0)).trans hx116_0
                         replace hx116_1 := (HB.out.cell (World.block_lt_of_cell? w _ hx116_1)).trans hx116_1
                         have HR116_1 := Aside0.mk hi116_1
                         have HC116_1 := Aside0.mk hl116_1
                         clear hi116_1 hl116_1
                         replace p116 := eq_true p116
                         replace q116 := eq_true q116
                         have ea_ := Option.some.inj (hx115_1.symm.trans hx116_1)
                         injection ea_ with ea_ en_ ec_
                         subst ea_
                         subst ec_
                         clear en_
                         have p117 : 0 ≤ ((rd t110 x56_4) : Int) := of_decide_eq_true (by first | (with_reducible assumption) | assumption)
                         have q117 : (rd t110 x56_4) < (l0_3.length : Int) := of_decide_eq_true (by first | (with_reducible assumption) | assumption)
                         obtain ⟨ad117, A117_1, c117_1, e117, hx117_0, hx117_1, hl117_1, hi117_1⟩ := at_T35 HR0_3.out (rd t110 x56_4) p117 q117
                         obtain rfl : ad115 = ad117 := (by injection e117)
                         replace hx117_0 := (HB.out.cell (World.block_lt_of_cell? w _ hx117_0)).trans hx117_0
                         replace hx117_1 := (HB.out.cell (World.block_lt_of_cell? w _ hx117_1)).trans hx117_1
                         have HR117_1 := Aside0.mk hi117_1
                         have HC117_1 := Aside0.mk hl117_1
                         clear hi117_1 hl117_1
                         replace p117 := eq_true p117
                         replace q117 := eq_true q117
                         have ea_ := Option.some.inj (hx115_1.symm.trans hx117_1)
                         injection ea_ with ea_ en_ ec_
                         subst ea_
                         subst ec_
                         clear en_
                         have p118 : 0 ≤ (0 : Int) := (by omega)
                         have q118 : 0 < (((rd_T35 l0_3 (rd t110 x56_4)).f1).length : Int) := of_decide_eq_true (by first | (with_reducible assumption) | assumption)
                         obtain ⟨ad118, e118, hx118_0⟩ := Kd.at_int HR117_1.out 0 p118 q118
                         cases e118
                         have qi118 : (0 < ((rd_T35 l0_3 (rd t110 x56_4)).f1).length) = True := eq_true (by omega)
                         (try rw [show ((0 : Int)).toNat = 0 from rfl] at hx118_0)
                         (try rw [Addr.add_zero'] at hx118_0)
                         replace hx118_0 := (HB.out.cell (World.block_lt_of_cell? w _ hx118_0)).trans hx118_0
                         replace p118 := eq_true p118
                         replace q118 := eq_true q118
                         go_wp2_with (first | (go_at_call 33; (with_reducible refine (gram_Sym_IsTerm.calls (rd ((rd_T35 l0_3 (rd t110 x56_4)).f1) 0) false _ A46.out).mono ?_); rintro e w' ⟨rfl, ⟨nd, rfl⟩⟩; have p120 : 0 ≤ ((rd t110 x56_4) : Int) := of_decide_eq_true (by first | (with_reducible assumption) | assumption); have q120 : (rd t110 x56_4) < (l0_3.length : Int) := of_decide_eq_true (by first | (with_reducible assumption) | assumption); obtain ⟨ad120, A120_1, c120_1, e120, hx120_0, hx120_1, hl120_1, hi120_1⟩ := at_T35 HR0_3.out (rd t110 x56_4) p120 q120; obtain rfl : ad115 = ad120 := (by injection e120); replace hx120_0 := (HB.out.cell (World.block_lt_of_cell? w _ hx120_0)).trans hx120_0; replace hx120_1 := (HB.out.cell (World.block_lt_of_cell? w _ hx120_1)).trans hx120_1; have HR120_1 := Aside0.mk hi120_1; have HC120_1 := Aside0.mk hl120_1; clear hi120_1 hl120_1; replace p120 := eq_true p120; replace q120 := eq_true q120; have ea_ := Option.some.inj (hx115_1.symm.trans hx120_1); injection ea_ with ea_ en_ ec_; subst ea_; subst ec_; clear en_; have p121 : 0 ≤ (0 : Int) := (by omega); have q121 : 0 < (((rd_T35 l0_3 (rd t110 x56_4)).f1).length : Int) := of_decide_eq_true (by first | (with_reducible assumption) | assumption); obtain ⟨ad121, e121, hx121_0⟩ := Kd.at_int HR120_1.out 0 p121 q121; cases e121; have qi121 : (0 < ((rd_T35 l0_3 (rd t110 x56_4)).f1).length) = True := eq_true (by omega); (try rw [show ((0 : Int)).toNat = 0 from rfl] at hx121_0); (try rw [Addr.add_zero'] at hx121_0); replace hx121_0 := (HB.out.cell (World.block_lt_of_cell? w _ hx121_0)).trans hx121_0; replace p121 := eq_true p121; replace q121 := eq_true q121) | ((with_reducible refine gate_callee (f := 34) rfl ?_); refine goesL_ (some 108) rfl rfl Tryd.func34 (by kernel_rfl) rfl #[.int .i64 (rd ((rd_T35 l0_3 (rd t110 x56_4)).f1) 0)] rfl (by (try simp only [List.map_toArray, List.map_cons, List.map_nil]); first | done | rfl | (simp only [List.length_drop, List.length_take]; rfl)) ?_; (with_reducible refine (gram_Sym_Place.calls (rd ((rd_T35 l0_3 (rd t110 x56_4)).f1) 0) t122 _ A49.out).mono ?_); rintro e w' ⟨rfl, ⟨nd, rfl⟩⟩; refine ⟨_, rfl, ?_⟩))
                         go_roundg k4
                         case measure => have := HJ1.out; have := HK2.out; have := HK3.out; have := HK4.out; omega
                         case rel => exact ⟨(t122), (wrap64 (x56_4 + 1)), (by first | rfl | (simp; done) | (simp [*]; done)), (by first | rfl | (simp; done) | (simp [*]; done)), H', ⟨by have := HJ1.out; have := HK2.out; have := HK3.out; have := HK4.out; omega⟩, ⟨by (with_reducible repeat (first | apply Kd.R_alloc | apply Kd.R_drewN | apply Kd.R_drew)); exact HO_6.out⟩, ⟨by (with_reducible repeat (first | apply Kd.R_alloc | apply Kd.R_drewN | apply Kd.R_drew)); exact HO_40.out⟩, ⟨by (with_reducible repeat (first | apply Kd.R_alloc | apply Kd.R_drewN | apply Kd.R_drew)); exact HO_54.out⟩, ⟨by (with_reducible repeat (first | refine blk_drewN ?_ _ | refine blk_drew ?_ | refine blk_alloc ?_ _)); exact BK101.out⟩, ⟨by repeat (first | (with_reducible first | exact HB.out | apply below_alloc | apply pw_below_drewN | apply below_drew1 | refine below_set ?_ GE101.out) | exact HB.out)⟩⟩
                       ·rw [if_neg c45] at H
                        exact absurd H (by simp)
                      ·rw [if_neg c44] at H
                       have c44b0 : ((((rd_T35 l0_3 (rd t110 x56_4)).f1).length : Int) == 1) = false := beq_eq_false_iff_ne.mpr c44
                       have c44b1 : ((((rd_T35 l0_3 (rd t110 x56_4)).f1).length : Int) != 1) = true := bne_iff_ne.mpr c44
                       obtain rfl := Option.some.inj H
                       have p114 : 0 ≤ (x56_4 : Int) := of_decide_eq_true (by first | (with_reducible assumption) | assumption)
                       have q114 : x56_4 < (t110.length : Int) := of_decide_eq_true (by first | (with_reducible assumption) | assumption)
                       obtain ⟨ad114, e114, hx114_0⟩ := Kd.at_int (Kd.R_reads' HO_54.out).2.2 x56_4 p114 q114
                       cases e114
                       replace p114 := eq_true p114
                       replace q114 := eq_true q114
                       have hcz51_0 : wr.cell? ⟨gb101, 0, none⟩ = some (.slice A0_0 l0_0.length c0_0) := (blk_cell BK101.out 0).trans rfl
                       have hcz51_1 : wr.cell? ⟨gb101, 1, none⟩ = some (.slice A0_1 l0_1.length c0_1) := (blk_cell BK101.out 1).trans rfl
                       have hcz51_2 : wr.cell? ⟨gb101, 2, none⟩ = some (.int .i64 a0_2) := (blk_cell BK101.out 2).trans rfl
                       have hcz51_3 : wr.cell? ⟨gb101, 3, none⟩ = some (.slice A0_3 l0_3.length c0_3) := (blk_cell BK101.out 3).trans rfl
                       have hfz51_0 := blk_frozen BK101.out 0
                       have hfz51_1 := blk_frozen BK101.out 1
                       have hfz51_2 := blk_frozen BK101.out 2
                       have hfz51_3 := blk_frozen BK101.out 3
                       have p115 : 0 ≤ ((rd t110 x56_4) : Int) := of_decide_eq_true (by first | (with_reducible assumption) | assumption)
                       have q115 : (rd t110 x56_4) < (l0_3.length : Int) := of_decide_eq_true (by first | (with_reducible assumption) | assumption)
                       obtain ⟨ad115, A115_1, c115_1, e115, hx115_0, hx115_1, hl115_1, hi115_1⟩ := at_T35 HR0_3.out (rd t110 x56_4) p115 q115
                       cases e115
                       replace hx115_0 := (HB.out.cell (World.block_lt_of_cell? w _ hx115_0)).trans hx115_0
                       replace hx115_1 := (HB.out.cell (World.block_lt_of_cell? w _ hx115_1)).trans hx115_1
                       have HR115_1 := Aside0.mk hi115_1
                       have HC115_1 := Aside0.mk hl115_1
                       clear hi115_1 hl115_1
                       replace p115 := eq_true p115
                       replace q115 := eq_true q115
                       have p116 : 0 ≤ ((rd t110 x56_4) : Int) := of_decide_eq_true (by first | (with_reducible assumption) | assumption)
                       have q116 : (rd t110 x56_4) < (l0_3.length : Int) := of_decide_eq_true (by first | (with_reducible assumption) | assumption)
                       obtain ⟨ad116, A116_1, c116_1, e116, hx116_0, hx116_1, hl116_1, hi116_1⟩ := at_T35 HR0_3.out (rd t110 x56_4) p116 q116
                       obtain rfl : ad115 = ad116 := (by injection e116)
                       replace hx116_0 := (HB.out.cell (World.block_lt_of_cell? w _ hx116_0)).trans hx116_0
                       replace hx116_1 := (HB.out.cell (World.block_lt_of_cell? w _ hx116_1)).trans hx116_1
                       have HR116_1 := Aside0.mk hi116_1
                       have HC116_1 := Aside0.mk hl116_1
                       clear hi116_1 hl116_1
                       replace p116 := eq_true p116
                       replace q116 := eq_true q116
                       have ea_ := Option.some.inj (hx115_1.symm.trans hx116_1)
                       injection ea_ with ea_ en_ ec_
                       subst ea_
                       subst ec_
                       clear en_
                       go_wp2
                       go_ret
                       exact ⟨by first | rfl | (simp [errW_none, errW_some] <;> rfl) | (simp [*, errW_none, errW_some] <;> rfl), by repeat (first | (with_reducible first | exact HB.out | apply below_alloc | apply pw_below_drewN | apply below_drew1 | refine below_set ?_ GE101.out) | exact HB.out)⟩
                     ·rw [if_neg c43] at H
                      have c43b0 : (((rd_T35 l0_3 (rd t110 x56_4)).f0) == x8_4) = false := beq_eq_false_iff_ne.mpr c43
                      have c43b1 : (((rd_T35 l0_3 (rd t110 x56_4)).f0) != x8_4) = true := bne_iff_ne.mpr c43
                      obtain rfl := Option.some.inj H
                      have p114 : 0 ≤ (x56_4 : Int) := of_decide_eq_true (by first | (with_reducible assumption) | assumption)
                      have q114 : x56_4 < (t110.length : Int) := of_decide_eq_true (by first | (with_reducible assumption) | assumption)
                      obtain ⟨ad114, e114, hx114_0⟩ := Kd.at_int (Kd.R_reads' HO_54.out).2.2 x56_4 p114 q114
                      cases e114
                      replace p114 := eq_true p114
                      replace q114 := eq_true q114
                      have hcz52_0 : wr.cell? ⟨gb101, 0, none⟩ = some (.slice A0_0 l0_0.length c0_0) := (blk_cell BK101.out 0).trans rfl
                      have hcz52_1 : wr.cell? ⟨gb101, 1, none⟩ = some (.slice A0_1 l0_1.length c0_1) := (blk_cell BK101.out 1).trans rfl
                      have hcz52_2 : wr.cell? ⟨gb101, 2, none⟩ = some (.int .i64 a0_2) := (blk_cell BK101.out 2).trans rfl
                      have hcz52_3 : wr.cell? ⟨gb101, 3, none⟩ = some (.slice A0_3 l0_3.length c0_3) := (blk_cell BK101.out 3).trans rfl
                      have hfz52_0 := blk_frozen BK101.out 0
                      have hfz52_1 := blk_frozen BK101.out 1
                      have hfz52_2 := blk_frozen BK101.out 2
                      have hfz52_3 := blk_frozen BK101.out 3
                      have p115 : 0 ≤ ((rd t110 x56_4) : Int) := of_decide_eq_true (by first | (with_reducible assumption) | assumption)
                      have q115 : (rd t110 x56_4) < (l0_3.length : Int) := of_decide_eq_true (by first | (with_reducible assumption) | assumption)
                      obtain ⟨ad115, A115_1, c115_1, e115, hx115_0, hx115_1, hl115_1, hi115_1⟩ := at_T35 HR0_3.out (rd t110 x56_4) p115 q115
                      cases e115
                      replace hx115_0 := (HB.out.cell (World.block_lt_of_cell? w _ hx115_0)).trans hx115_0
                      replace hx115_1 := (HB.out.cell (World.block_lt_of_cell? w _ hx115_1)).trans hx115_1
                      have HR115_1 := Aside0.mk hi115_1
                      have HC115_1 := Aside0.mk hl115_1
                      clear hi115_1 hl115_1
                      replace p115 := eq_true p115
                      replace q115 := eq_true q115
                      go_wp2
                      go_ret
                      exact ⟨by first | rfl | (simp [errW_none, errW_some] <;> rfl) | (simp [*, errW_none, errW_some] <;> rfl), by repeat (first | (with_reducible first | exact HB.out | apply below_alloc | apply pw_below_drewN | apply below_drew1 | refine below_set ?_ GE101.out) | exact HB.out)⟩
                    ·rw [if_neg c42] at H
                     exact absurd H (by simp)
                   ·rw [if_neg c41] at H
                    exact absurd H (by simp)
                ·rw [if_neg c37] at H
                 exact absurd H (by simp)
               ·rw [if_neg c36] at H
                exact absurd H (by simp)
              ·rw [if_neg c35] at H
               have c35b0 : decide (x56_4 < (t110.length : Int)) = false := decide_eq_false c35
               clear c35
               have HC53 := Aside0.mk H
               clear H
               go_upto_region 18 with (fail)
               go_cut [126] (fun v126 wc => ∃ (kq : Nat) (x126_52 : Bool), v126 = .bool x126_52 ∧ Aside0 (wickerlaw10_UnitsLead.j4 kq x35_2 (rd t106 x42_3) t110 (l0_0.length : Int) x35_2 t106 (t106.length : Int) x42_3 x126_52 l0_0 l0_1 a0_2 l0_3 = some r) ∧ Aside0 (kq ≤ k4) ∧ Aside0 (Kd.R (Kd.int .i64) 3 wc w.heap.size (fun k_ => some k_ ≠ ((.slice (some ad109) t106.length co27) : Value).ownBlock) (.slice Ao34 t110.length co34) t110) ∧ Aside0 (Kd.R (Kd.int .i64) 3 wc w.heap.size (fun k_ => some k_ ≠ ((.slice Ao34 t110.length co34) : Value).ownBlock) (.slice (some ad109) t106.length co27) t106) ∧ Aside0 (wc.heap[gb101]? = some (.cells #[(.slice A0_0 l0_0.length c0_0), (.slice A0_1 l0_1.length c0_1), .int .i64 a0_2, (.slice A0_3 l0_3.length c0_3)] 25 (0, 0))) ∧ Aside0 (Below w.heap.size w wc))
               case first =>
                have H := HC53.out
                clear HC53
                by_cases c54 : t113 = true
                ·subst c54
                 have H1 : (if x8_4 = (rd t106 x42_3) then (if x35_2 = (rd t106 x42_3) then (wickerlaw10_UnitsLead.j4 k4 x35_2 (rd t106 x42_3) t110 (l0_0.length : Int) x35_2 t106 (t106.length : Int) x42_3 (decide ((t110.length : Int) > 0)) l0_0 l0_1 a0_2 l0_3) else (wickerlaw10_UnitsLead.j4 k4 x35_2 (rd t106 x42_3) t110 (l0_0.length : Int) x35_2 t106 (t106.length : Int) x42_3 false l0_0 l0_1 a0_2 l0_3)) else (wickerlaw10_UnitsLead.j4 k4 x35_2 (rd t106 x42_3) t110 (l0_0.length : Int) x35_2 t106 (t106.length : Int) x42_3 true l0_0 l0_1 a0_2 l0_3)) = some r := by rw [if_pos rfl] at H; exact H
                 clear H
                 have H := H1
                 clear H1
                 by_cases c55 : x8_4 = (rd t106 x42_3)
                 ·rw [if_pos c55] at H
                  have c55b0 : (x8_4 == (rd t106 x42_3)) = true := beq_iff_eq.mpr c55
                  have c55b1 : (x8_4 != (rd t106 x42_3)) = false := bne_eq_false_iff_eq.mpr c55
                  clear c55
                  (first | rw [c55b0] | (simp only [i64_w, i32_w]; rw [c55b0]) | skip)
                  by_cases c56 : x35_2 = (rd t106 x42_3)
                  ·rw [if_pos c56] at H
                   have c56b0 : (x35_2 == (rd t106 x42_3)) = true := beq_iff_eq.mpr c56
                   have c56b1 : (x35_2 != (rd t106 x42_3)) = false := bne_eq_false_iff_eq.mpr c56
                   clear c56
                   have H' := Aside0.mk H
                   clear H
                   go_wp2
                   go_meet
                   case rel => exact ⟨_, (decide ((t110.length : Int) > 0)), (by first | rfl | (simp; done) | (simp [*]; done)), H', ⟨by have := HJ1.out; have := HK2.out; have := HK3.out; have := HK4.out; first | omega | exact Nat.le_refl _⟩, ⟨by (with_reducible repeat (first | apply Kd.R_alloc | apply Kd.R_drewN | apply Kd.R_drew)); exact HO_6.out⟩, ⟨by (with_reducible repeat (first | apply Kd.R_alloc | apply Kd.R_drewN | apply Kd.R_drew)); exact Kd.R_mono HO_40.out (fun _ hk => hk.1)⟩, ⟨by (with_reducible repeat (first | refine blk_drewN ?_ _ | refine blk_drew ?_ | refine blk_alloc ?_ _)); exact BK101.out⟩, ⟨by repeat (first | (with_reducible first | exact HB.out | apply below_alloc | apply pw_below_drewN | apply below_drew1 | refine below_set ?_ GE101.out) | exact HB.out)⟩⟩
                  ·rw [if_neg c56] at H
                   have c56b0 : (x35_2 == (rd t106 x42_3)) = false := beq_eq_false_iff_ne.mpr c56
                   have c56b1 : (x35_2 != (rd t106 x42_3)) = true := bne_iff_ne.mpr c56
                   have H' := Aside0.mk H
                   clear H
                   go_wp2
                   go_meet
                   case rel => exact ⟨_, (false), (by first | rfl | (simp; done) | (simp [*]; done)), H', ⟨by have := HJ1.out; have := HK2.out; have := HK3.out; have := HK4.out; first | omega | exact Nat.le_refl _⟩, ⟨by (with_reducible repeat (first | apply Kd.R_alloc | apply Kd.R_drewN | apply Kd.R_drew)); exact HO_6.out⟩, ⟨by (with_reducible repeat (first | apply Kd.R_alloc | apply Kd.R_drewN | apply Kd.R_drew)); exact Kd.R_mono HO_40.out (fun _ hk => hk.1)⟩, ⟨by (with_reducible repeat (first | refine blk_drewN ?_ _ | refine blk_drew ?_ | refine blk_alloc ?_ _)); exact BK101.out⟩, ⟨by repeat (first | (with_reducible first | exact HB.out | apply below_alloc | apply pw_below_drewN | apply below_drew1 | refine below_set ?_ GE101.out) | exact HB.out)⟩⟩
                 ·rw [if_neg c55] at H
                  have c55b0 : (x8_4 == (rd t106 x42_3)) = false := beq_eq_false_iff_ne.mpr c55
                  have c55b1 : (x8_4 != (rd t106 x42_3)) = true := bne_iff_ne.mpr c55
                  (first | rw [c55b0] | (simp only [i64_w, i32_w]; rw [c55b0]) | skip)
                  have H' := Aside0.mk H
                  clear H
                  go_wp2
                  go_meet
                  case rel => exact ⟨_, (true), (by first | rfl | (simp; done) | (simp [*]; done)), H', ⟨by have := HJ1.out; have := HK2.out; have := HK3.out; have := HK4.out; first | omega | exact Nat.le_refl _⟩, ⟨by (with_reducible repeat (first | apply Kd.R_alloc | apply Kd.R_drewN | apply Kd.R_drew)); exact HO_6.out⟩, ⟨by (with_reducible repeat (first | apply Kd.R_alloc | apply Kd.R_drewN | apply Kd.R_drew)); exact Kd.R_mono HO_40.out (fun _ hk => hk.1)⟩, ⟨by (with_reducible repeat (first | refine blk_drewN ?_ _ | refine blk_drew ?_ | refine blk_alloc ?_ _)); exact BK101.out⟩, ⟨by repeat (first | (with_reducible first | exact HB.out | apply below_alloc | apply pw_below_drewN | apply below_drew1 | refine below_set ?_ GE101.out) | exact HB.out)⟩⟩
                ·replace c54 := Bool.eq_false_iff.mpr c54
                 subst c54
                 have H1 : (wickerlaw10_UnitsLead.j4 k4 x35_2 (rd t106 x42_3) t110 (l0_0.length : Int) x35_2 t106 (t106.length : Int) x42_3 true l0_0 l0_1 a0_2 l0_3) = some r := by rw [if_neg (show ¬ (false = true) by decide)] at H; exact H
                 clear H
                 have H := H1
                 clear H1
                 have H' := Aside0.mk H
                 clear H
                 go_wp2
                 go_meet
                 case rel => exact ⟨_, (true), (by first | rfl | (simp; done) | (simp [*]; done)), H', ⟨by have := HJ1.out; have := HK2.out; have := HK3.out; have := HK4.out; first | omega | exact Nat.le_refl _⟩, ⟨by (with_reducible repeat (first | apply Kd.R_alloc | apply Kd.R_drewN | apply Kd.R_drew)); exact HO_6.out⟩, ⟨by (with_reducible repeat (first | apply Kd.R_alloc | apply Kd.R_drewN | apply Kd.R_drew)); exact Kd.R_mono HO_40.out (fun _ hk => hk.1)⟩, ⟨by (with_reducible repeat (first | refine blk_drewN ?_ _ | refine blk_drew ?_ | refine blk_alloc ?_ _)); exact BK101.out⟩, ⟨by repeat (first | (with_reducible first | exact HB.out | apply below_alloc | apply pw_below_drewN | apply below_drew1 | refine below_set ?_ GE101.out) | exact HB.out)⟩⟩
               case rest =>
                clear HC53
                try clear c1
                try clear p1
                try clear q1
                try clear hx1
                try clear qi1
                try clear c2
                try clear p2
                try clear c3
                try clear c4
                try clear c5
                try clear p6
                try clear c7
                try clear c9
                try clear p10
                try clear q10
                try clear hx10
                try clear c11
                try clear p11
                try clear q11
                try clear hx11
                try clear qi11
                try clear c12
                try clear p12
                try clear q12
                try clear hx12
                try clear qi12
                try clear c19
                try clear c23
                try clear c23b0
                try clear c27
                try clear c28
                try clear c28b0
                try clear c29
                try clear c29b0
                try clear c30
                try clear c30b0
                try clear c34
                try clear c35
                try clear c35b0
                try clear c36
                try clear c36b0
                try clear c37
                try clear c37b0
                try clear c38
                try clear c38b0
                try clear c39
                try clear c39b0
                try clear c41
                try clear c41b0
                try clear c42
                try clear c42b0
                try clear c43
                try clear c43b0
                try clear c43b1
                try clear c44
                try clear c44b0
                try clear c44b1
                try clear c45
                try clear c45b0
                try clear c45b1
                try clear c47
                try clear c54
                try clear c55
                try clear c55b0
                try clear c55b1
                try clear c56
                try clear c56b0
                try clear c56b1
                try clear hcz10_0
                try clear hcz10_1
                try clear hcz10_2
                try clear hcz10_3
                try clear hcz12_0
                try clear hcz12_1
                try clear hcz12_2
                try clear hcz12_3
                try clear hcz13_0
                try clear hcz13_1
                try clear hcz13_2
                try clear hcz13_3
                try clear hcz15_0
                try clear hcz15_1
                try clear hcz15_2
                try clear hcz15_3
                try clear hcz17_0
                try clear hcz17_1
                try clear hcz17_2
                try clear hcz17_3
                try clear hcz22_0
                try clear hcz22_1
                try clear hcz22_2
                try clear hcz22_3
                try clear hcz25_0
                try clear hcz25_1
                try clear hcz25_2
                try clear hcz25_3
                try clear hcz32_0
                try clear hcz32_1
                try clear hcz32_2
                try clear hcz32_3
                try clear hcz40_0
                try clear hcz40_1
                try clear hcz40_2
                try clear hcz40_3
                try clear hcz48_0
                try clear hcz48_1
                try clear hcz48_2
                try clear hcz48_3
                try clear hcz50_0
                try clear hcz50_1
                try clear hcz50_2
                try clear hcz50_3
                try clear hcz51_0
                try clear hcz51_1
                try clear hcz51_2
                try clear hcz51_3
                try clear hcz52_0
                try clear hcz52_1
                try clear hcz52_2
                try clear hcz52_3
                try clear hcz8_0
                try clear hcz8_1
                try clear hcz8_2
                try clear hcz8_3
                try clear hfz10_0
                try clear hfz10_1
                try clear hfz10_2
                try clear hfz10_3
                try clear hfz12_0
                try clear hfz12_1
                try clear hfz12_2
                try clear hfz12_3
                try clear hfz13_0
                try clear hfz13_1
                try clear hfz13_2
                try clear hfz13_3
                try clear hfz15_0
                try clear hfz15_1
                try clear hfz15_2
                try clear hfz15_3
                try clear hfz17_0
                try clear hfz17_1
                try clear hfz17_2
                try clear hfz17_3
                try clear hfz22_0
                try clear hfz22_1
                try clear hfz22_2
                try clear hfz22_3
                try clear hfz25_0
                try clear hfz25_1
                try clear hfz25_2
                try clear hfz25_3
                try clear hfz32_0
                try clear hfz32_1
                try clear hfz32_2
                try clear hfz32_3
                try clear hfz40_0
                try clear hfz40_1
                try clear hfz40_2
                try clear hfz40_3
                try clear hfz48_0
                try clear hfz48_1
                try clear hfz48_2
                try clear hfz48_3
                try clear hfz50_0
                try clear hfz50_1
                try clear hfz50_2
                try clear hfz50_3
                try clear hfz51_0
                try clear hfz51_1
                try clear hfz51_2
                try clear hfz51_3
                try clear hfz52_0
                try clear hfz52_1
                try clear hfz52_2
                try clear hfz52_3
                try clear hfz8_0
                try clear hfz8_1
                try clear hfz8_2
                try clear hfz8_3
                try clear hx109_0
                try clear hx114_0
                try clear hx115_0
                try clear hx115_1
                try clear hx116_0
                try clear hx116_1
                try clear hx117_0
                try clear hx117_1
                try clear hx118_0
                try clear hx120_0
                try clear hx120_1
                try clear hx121_0
                try clear p1
                try clear p10
                try clear p109
                try clear p114
                try clear p115
                try clear p116
                try clear p117
                try clear p118
                try clear p120
                try clear p121
                try clear p2
                try clear q1
                try clear q10
                try clear q109
                try clear q114
                try clear q115
                try clear q116
                try clear q117
                try clear q118
                try clear q120
                try clear q121
                obtain ⟨kq, x126_52, rfl, HA, HJ52, HO_6, HO_40, BK101, HB⟩ := hcut
                cases kq with
                | zero => exact absurd HA.out (by simp [wickerlaw10_UnitsLead.j4])
                | succ kj52 =>
                 have H := HA.out
                 clear HA
                 simp only [wickerlaw10_UnitsLead.j4] at H
                 by_cases c57 : x126_52 = true
                 ·subst c57
                  have H1 : (some false) = some r := by rw [if_pos rfl] at H; exact H
                  clear H
                  have H := H1
                  clear H1
                  obtain rfl := Option.some.inj H
                  go_wp2
                  go_ret
                  exact ⟨by first | rfl | (simp [errW_none, errW_some] <;> rfl) | (simp [*, errW_none, errW_some] <;> rfl), by repeat (first | (with_reducible first | exact HB.out | apply below_alloc | apply pw_below_drewN | apply below_drew1 | refine below_set ?_ GE101.out) | exact HB.out)⟩
                 ·replace c57 := Bool.eq_false_iff.mpr c57
                  subst c57
                  have H1 : ((units_From.f kj52 l0_0 l0_1 a0_2 l0_3 (rd t106 x42_3)).bind fun t123 => (wickerlaw10_UnitsLead.l3 kj52 x35_2 (rd t106 x42_3) t110 (l0_0.length : Int) x35_2 t106 (t106.length : Int) x42_3 t123 (t123.length : Int) 0 l0_0 l0_1 a0_2 l0_3)) = some r := by rw [if_neg (show ¬ (false = true) by decide)] at H; exact H
                  clear H
                  have H := H1
                  clear H1
                  replace H := Option.bind_eq_some_iff.mp H
                  obtain ⟨t123, A580, H⟩ := H
                  replace H : (wickerlaw10_UnitsLead.l3 kj52 x35_2 (rd t106 x42_3) t110 (l0_0.length : Int) x35_2 t106 (t106.length : Int) x42_3 t123 (t123.length : Int) 0 l0_0 l0_1 a0_2 l0_3) = some r := H
                  have A58 := Aside0.mk A580
                  clear A580
                  have H' := Aside0.mk H
                  clear H
                  have hcz59_0 : wc.cell? ⟨gb101, 0, none⟩ = some (.slice A0_0 l0_0.length c0_0) := (blk_cell BK101.out 0).trans rfl
                  have hcz59_1 : wc.cell? ⟨gb101, 1, none⟩ = some (.slice A0_1 l0_1.length c0_1) := (blk_cell BK101.out 1).trans rfl
                  have hcz59_2 : wc.cell? ⟨gb101, 2, none⟩ = some (.int .i64 a0_2) := (blk_cell BK101.out 2).trans rfl
                  have hcz59_3 : wc.cell? ⟨gb101, 3, none⟩ = some (.slice A0_3 l0_3.length c0_3) := (blk_cell BK101.out 3).trans rfl
                  have hfz59_0 := blk_frozen BK101.out 0
                  have hfz59_1 := blk_frozen BK101.out 1
                  have hfz59_2 := blk_frozen BK101.out 2
                  have hfz59_3 := blk_frozen BK101.out 3
                  go_wp2_with (first | ((with_reducible refine gate_callee (f := 30) rfl ?_); refine goesL_ (some 129) rfl rfl Tryd.func30 (by kernel_rfl) rfl #[.agg #[.slice A0_0 l0_0.length c0_0, .slice A0_1 l0_1.length c0_1, .int .i64 a0_2, .slice A0_3 l0_3.length c0_3], .int .i64 (rd t106 x42_3)] rfl (by (try simp only [List.map_toArray, List.map_cons, List.map_nil]); first | done | rfl | (simp only [List.length_drop, List.length_take]; rfl)) ?_; (with_reducible refine (units_From.calls kj52 _ _ l0_0 _ _ l0_1 a0_2 _ _ l0_3 (rd t106 x42_3) t123 _ ?side1 ?side2 ?side3 ?side4 ?side5 ?side6 ?side7 A58.out).mono ?_); (case side1 => exact Laid.below HG.out (by repeat (first | (with_reducible first | exact HB.out | apply below_alloc | apply pw_below_drewN | apply below_drew1 | refine below_set ?_ GE101.out) | exact HB.out))); (case side2 => repeat (first | exact (Kd.C_below HR0_0.out HB.out) | (with_reducible refine Kd.C_alloc ?_ _) | (with_reducible refine Kd.C_drewN ?_ _) | (with_reducible refine Kd.C_drew ?_))); (case side3 => exact HC0_0.out); (case side4 => repeat (first | exact (Kd.C_below HR0_1.out HB.out) | (with_reducible refine Kd.C_alloc ?_ _) | (with_reducible refine Kd.C_drewN ?_ _) | (with_reducible refine Kd.C_drew ?_))); (case side5 => exact HC0_1.out); (case side6 => repeat (first | exact (Kd.C_below HR0_3.out HB.out) | (with_reducible refine Kd.C_alloc ?_ _) | (with_reducible refine Kd.C_drewN ?_ _) | (with_reducible refine Kd.C_drew ?_))); (case side7 => exact HC0_3.out); rintro e w60 ⟨v124, rfl, ho0, hb⟩; refine ⟨_, rfl, ?_⟩; have n0_ := Aside0.mk (Kd.R_elder' (by (with_reducible repeat (first | apply Kd.R_alloc | apply Kd.R_drewN | apply Kd.R_drew)); exact HO_6.out) (Kd.R_base ho0) hb); have n1_ := Aside0.mk (Kd.R_elder' (by (with_reducible repeat (first | apply Kd.R_alloc | apply Kd.R_drewN | apply Kd.R_drew)); exact HO_40.out) (Kd.R_base ho0) hb); have n2_ := Aside0.mk (Kd.R_lower (Kd.R_new' (Kd.R_new' ho0 (Kd.R_lt (by (with_reducible repeat (first | apply Kd.R_alloc | apply Kd.R_drewN | apply Kd.R_drew)); exact HO_6.out))) (Kd.R_lt (by (with_reducible repeat (first | apply Kd.R_alloc | apply Kd.R_drewN | apply Kd.R_drew)); exact HO_40.out))) (below_size (by repeat (first | (with_reducible first | exact HB.out | apply below_alloc | apply pw_below_drewN | apply below_drew1 | refine below_set ?_ GE101.out) | exact HB.out)))); have n3_ := Aside0.mk (blk_below (g := gb101) (o := .cells #[.slice A0_0 l0_0.length c0_0, .slice A0_1 l0_1.length c0_1, .int .i64 a0_2, .slice A0_3 l0_3.length c0_3] 25 (0, 0)) (by (with_reducible repeat (first | refine blk_drewN ?_ _ | refine blk_drew ?_ | refine blk_alloc ?_ _)); exact BK101.out) hb); have n4_ := Aside0.mk (below_step (by repeat (first | (with_reducible first | exact HB.out | apply below_alloc | apply pw_below_drewN | apply below_drew1 | refine below_set ?_ GE101.out) | exact HB.out)) hb); clear HO_6; clear HO_40; clear BK101; clear HB; have HO_6 := n0_; have HO_40 := n1_; have HO125 := n2_; have BK101 := n3_; have HB := n4_; clear n0_ n1_ n2_ n3_ n4_; (try clear hb); (try clear hb2); (try clear hk); (try clear hi); (try clear ho0); obtain ⟨Ao61, co61, eo61⟩ := Kd.R_slice HO125.out; subst eo61))
                  go_loopg [131] kj52 (fun kq v131 w' => ∃ (x131_6 : Int), v131 = .int .i64 x131_6 ∧ Aside0 (wickerlaw10_UnitsLead.l3 kq x35_2 (rd t106 x42_3) t110 (l0_0.length : Int) x35_2 t106 (t106.length : Int) x42_3 t123 (t123.length : Int) x131_6 l0_0 l0_1 a0_2 l0_3 = some r) ∧ Aside0 (kq ≤ kj52) ∧ Aside0 (Kd.R (Kd.int .i64) 3 w' w.heap.size (fun k_ => some k_ ≠ ((.slice (some ad109) t106.length co27) : Value).ownBlock ∧ some k_ ≠ ((.slice Ao61 t123.length co61) : Value).ownBlock) (.slice Ao34 t110.length co34) t110) ∧ Aside0 (Kd.R (Kd.int .i64) 3 w' w.heap.size (fun k_ => some k_ ≠ ((.slice Ao34 t110.length co34) : Value).ownBlock ∧ some k_ ≠ ((.slice Ao61 t123.length co61) : Value).ownBlock) (.slice (some ad109) t106.length co27) t106) ∧ Aside0 (Kd.R (Kd.int .i64) 3 w' w.heap.size (fun k_ => some k_ ≠ ((.slice Ao34 t110.length co34) : Value).ownBlock ∧ some k_ ≠ ((.slice (some ad109) t106.length co27) : Value).ownBlock) (.slice Ao61 t123.length co61) t123) ∧ Aside0 (w'.heap[gb101]? = some (.cells #[(.slice A0_0 l0_0.length c0_0), (.slice A0_1 l0_1.length c0_1), .int .i64 a0_2, (.slice A0_3 l0_3.length c0_3)] 25 (0, 0))) ∧ Aside0 (Below w.heap.size w w'))
                  case atStart => exact ⟨(0), (by first | rfl | (simp; done) | (simp [*]; done)), H', ⟨Nat.le_refl _⟩, ⟨by (with_reducible repeat (first | apply Kd.R_alloc | apply Kd.R_drewN | apply Kd.R_drew)); exact HO_6.out⟩, ⟨by (with_reducible repeat (first | apply Kd.R_alloc | apply Kd.R_drewN | apply Kd.R_drew)); exact HO_40.out⟩, ⟨by (with_reducible repeat (first | apply Kd.R_alloc | apply Kd.R_drewN | apply Kd.R_drew)); exact Kd.R_mono HO125.out (fun _ hk => ⟨hk.1.2, hk.2⟩)⟩, ⟨by (with_reducible repeat (first | refine blk_drewN ?_ _ | refine blk_drew ?_ | refine blk_alloc ?_ _)); exact BK101.out⟩, ⟨by repeat (first | (with_reducible first | exact HB.out | apply below_alloc | apply pw_below_drewN | apply below_drew1 | refine below_set ?_ GE101.out) | exact HB.out)⟩⟩
                  case round =>
                   clear H'
                   try clear c1
                   try clear p1
                   try clear q1
                   try clear hx1
                   try clear qi1
                   try clear c2
                   try clear p2
                   try clear c3
                   try clear c4
                   try clear c5
                   try clear p6
                   try clear c7
                   try clear c9
                   try clear p10
                   try clear q10
                   try clear hx10
                   try clear c11
                   try clear p11
                   try clear q11
                   try clear hx11
                   try clear qi11
                   try clear c12
                   try clear p12
                   try clear q12
                   try clear hx12
                   try clear qi12
                   try clear c19
                   try clear c23
                   try clear c23b0
                   try clear c27
                   try clear c28
                   try clear c28b0
                   try clear c29
                   try clear c29b0
                   try clear c30
                   try clear c30b0
                   try clear c34
                   try clear c35
                   try clear c35b0
                   try clear c36
                   try clear c36b0
                   try clear c37
                   try clear c37b0
                   try clear c38
                   try clear c38b0
                   try clear c39
                   try clear c39b0
                   try clear c41
                   try clear c41b0
                   try clear c42
                   try clear c42b0
                   try clear c43
                   try clear c43b0
                   try clear c43b1
                   try clear c44
                   try clear c44b0
                   try clear c44b1
                   try clear c45
                   try clear c45b0
                   try clear c45b1
                   try clear c47
                   try clear c54
                   try clear c55
                   try clear c55b0
                   try clear c55b1
                   try clear c56
                   try clear c56b0
                   try clear c56b1
                   try clear c57
                   try clear hcz10_0
                   try clear hcz10_1
                   try clear hcz10_2
                   try clear hcz10_3
                   try clear hcz12_0
                   try clear hcz12_1
                   try clear hcz12_2
                   try clear hcz12_3
                   try clear hcz13_0
                   try clear hcz13_1
                   try clear hcz13_2
                   try clear hcz13_3
                   try clear hcz15_0
                   try clear hcz15_1
                   try clear hcz15_2
                   try clear hcz15_3
                   try clear hcz17_0
                   try clear hcz17_1
                   try clear hcz17_2
                   try clear hcz17_3
                   try clear hcz22_0
                   try clear hcz22_1
                   try clear hcz22_2
                   try clear hcz22_3
                   try clear hcz25_0
                   try clear hcz25_1
                   try clear hcz25_2
                   try clear hcz25_3
                   try clear hcz32_0
                   try clear hcz32_1
                   try clear hcz32_2
                   try clear hcz32_3
                   try clear hcz40_0
                   try clear hcz40_1
                   try clear hcz40_2
                   try clear hcz40_3
                   try clear hcz48_0
                   try clear hcz48_1
                   try clear hcz48_2
                   try clear hcz48_3
                   try clear hcz50_0
                   try clear hcz50_1
                   try clear hcz50_2
                   try clear hcz50_3
                   try clear hcz51_0
                   try clear hcz51_1
                   try clear hcz51_2
                   try clear hcz51_3
                   try clear hcz52_0
                   try clear hcz52_1
                   try clear hcz52_2
                   try clear hcz52_3
                   try clear hcz59_0
                   try clear hcz59_1
                   try clear hcz59_2
                   try clear hcz59_3
                   try clear hcz8_0
                   try clear hcz8_1
                   try clear hcz8_2
                   try clear hcz8_3
                   try clear hfz10_0
                   try clear hfz10_1
                   try clear hfz10_2
                   try clear hfz10_3
                   try clear hfz12_0
                   try clear hfz12_1
                   try clear hfz12_2
                   try clear hfz12_3
                   try clear hfz13_0
                   try clear hfz13_1
                   try clear hfz13_2
                   try clear hfz13_3
                   try clear hfz15_0
                   try clear hfz15_1
                   try clear hfz15_2
                   try clear hfz15_3
                   try clear hfz17_0
                   try clear hfz17_1
                   try clear hfz17_2
                   try clear hfz17_3
                   try clear hfz22_0
                   try clear hfz22_1
                   try clear hfz22_2
                   try clear hfz22_3
                   try clear hfz25_0
                   try clear hfz25_1
                   try clear hfz25_2
                   try clear hfz25_3
                   try clear hfz32_0
                   try clear hfz32_1
                   try clear hfz32_2
                   try clear hfz32_3
                   try clear hfz40_0
                   try clear hfz40_1
                   try clear hfz40_2
                   try clear hfz40_3
                   try clear hfz48_0
                   try clear hfz48_1
                   try clear hfz48_2
                   try clear hfz48_3
                   try clear hfz50_0
                   try clear hfz50_1
                   try clear hfz50_2
                   try clear hfz50_3
                   try clear hfz51_0
                   try clear hfz51_1
                   try clear hfz51_2
                   try clear hfz51_3
                   try clear hfz52_0
                   try clear hfz52_1
                   try clear hfz52_2
                   try clear hfz52_3
                   try clear hfz59_0
                   try clear hfz59_1
                   try clear hfz59_2
                   try clear hfz59_3
                   try clear hfz8_0
                   try clear hfz8_1
                   try clear hfz8_2
                   try clear hfz8_3
                   try clear hx109_0
                   try clear hx114_0
                   try clear hx115_0
                   try clear hx115_1
                   try clear hx116_0
                   try clear hx116_1
                   try clear hx117_0
                   try clear hx117_1
                   try clear hx118_0
                   try clear hx120_0
                   try clear hx120_1
                   try clear hx121_0
                   try clear p1
                   try clear p10
                   try clear p109
                   try clear p11
                   try clear p114
                   try clear p115
                   try clear p116
                   try clear p117
                   try clear p118
                   try clear p12
                   try clear p120
                   try clear p121
                   try clear p2
                   try clear p6
                   try clear q1
                   try clear q10
                   try clear q109
                   try clear q11
                   try clear q114
                   try clear q115
                   try clear q116
                   try clear q117
                   try clear q118
                   try clear q12
                   try clear q120
                   try clear q121
                   obtain ⟨x131_6, rfl, HA, HK6, HO_6, HO_40, HO_129, BK101, HB⟩ := hrel
                   cases gk with
                   | zero => exact absurd HA.out (by simp [wickerlaw10_UnitsLead.l3])
                   | succ k6 =>
                    have H := HA.out
                    clear HA
                    simp only [wickerlaw10_UnitsLead.l3] at H
                    by_cases c62 : x131_6 < (t123.length : Int)
                    ·rw [if_pos c62] at H
                     have c62b0 : decide (x131_6 < (t123.length : Int)) = true := decide_eq_true c62
                     clear c62
                     by_cases c63 : 0 ≤ x131_6
                     ·rw [if_pos c63] at H
                      have c63b0 : decide (0 ≤ x131_6) = true := decide_eq_true c63
                      clear c63
                      by_cases c64 : x131_6 < (t123.length : Int)
                      ·rw [if_pos c64] at H
                       have c64b0 : decide (x131_6 < (t123.length : Int)) = true := decide_eq_true c64
                       clear c64
                       replace H := Option.bind_eq_some_iff.mp H
                       obtain ⟨⟨t127, t130⟩, A650, H⟩ := H
                       replace H : ((units_Chain.f k6 l0_0 l0_1 a0_2 l0_3 x35_2 (rd t123 x131_6)).bind fun bt131 => (if t130 = true then (if bt131.2 = true then (if (bt131.1.length : Int) > (wrap64 ((t110.length : Int) + (t127.length : Int))) then (some false) else (wickerlaw10_UnitsLead.l3 k6 x35_2 (rd t106 x42_3) t110 (l0_0.length : Int) x35_2 t106 (t106.length : Int) x42_3 t123 (t123.length : Int) (wrap64 (x131_6 + 1)) l0_0 l0_1 a0_2 l0_3)) else (some false)) else (some false))) = some r := H
                       have A65 := Aside0.mk A650
                       clear A650
                       replace H := Option.bind_eq_some_iff.mp H
                       obtain ⟨⟨t131, t134⟩, A660, H⟩ := H
                       replace H : (if t130 = true then (if t134 = true then (if (t131.length : Int) > (wrap64 ((t110.length : Int) + (t127.length : Int))) then (some false) else (wickerlaw10_UnitsLead.l3 k6 x35_2 (rd t106 x42_3) t110 (l0_0.length : Int) x35_2 t106 (t106.length : Int) x42_3 t123 (t123.length : Int) (wrap64 (x131_6 + 1)) l0_0 l0_1 a0_2 l0_3)) else (some false)) else (some false)) = some r := H
                       have A66 := Aside0.mk A660
                       clear A660
                       by_cases c67 : t130 = true
                       ·subst c67
                        have H1 : (if t134 = true then (if (t131.length : Int) > (wrap64 ((t110.length : Int) + (t127.length : Int))) then (some false) else (wickerlaw10_UnitsLead.l3 k6 x35_2 (rd t106 x42_3) t110 (l0_0.length : Int) x35_2 t106 (t106.length : Int) x42_3 t123 (t123.length : Int) (wrap64 (x131_6 + 1)) l0_0 l0_1 a0_2 l0_3)) else (some false)) = some r := by rw [if_pos rfl] at H; exact H
                        clear H
                        have H := H1
                        clear H1
                        by_cases c68 : t134 = true
                        ·subst c68
                         have H1 : (if (t131.length : Int) > (wrap64 ((t110.length : Int) + (t127.length : Int))) then (some false) else (wickerlaw10_UnitsLead.l3 k6 x35_2 (rd t106 x42_3) t110 (l0_0.length : Int) x35_2 t106 (t106.length : Int) x42_3 t123 (t123.length : Int) (wrap64 (x131_6 + 1)) l0_0 l0_1 a0_2 l0_3)) = some r := by rw [if_pos rfl] at H; exact H
                         clear H
                         have H := H1
                         clear H1
                         by_cases c69 : (t131.length : Int) > (wrap64 ((t110.length : Int) + (t127.length : Int)))
                         ·rw [if_pos c69] at H
                          have c69b0 : decide ((wrap64 ((t110.length : Int) + (t127.length : Int))) < (t131.length : Int)) = true := decide_eq_true c69
                          clear c69
                          obtain rfl := Option.some.inj H
                          have p126 : 0 ≤ (x131_6 : Int) := of_decide_eq_true (by first | (with_reducible assumption) | assumption)
                          have q126 : x131_6 < (t123.length : Int) := of_decide_eq_true (by first | (with_reducible assumption) | assumption)
                          obtain ⟨ad126, e126, hx126_0⟩ := Kd.at_int (Kd.R_reads' HO_129.out).2.2 x131_6 p126 q126
                          cases e126
                          replace p126 := eq_true p126
                          replace q126 := eq_true q126
                          have hcz70_0 : wr.cell? ⟨gb101, 0, none⟩ = some (.slice A0_0 l0_0.length c0_0) := (blk_cell BK101.out 0).trans rfl
                          have hcz70_1 : wr.cell? ⟨gb101, 1, none⟩ = some (.slice A0_1 l0_1.length c0_1) := (blk_cell BK101.out 1).trans rfl
                          have hcz70_2 : wr.cell? ⟨gb101, 2, none⟩ = some (.int .i64 a0_2) := (blk_cell BK101.out 2).trans rfl
                          have hcz70_3 : wr.cell? ⟨gb101, 3, none⟩ = some (.slice A0_3 l0_3.length c0_3) := (blk_cell BK101.out 3).trans rfl
                          have hfz70_0 := blk_frozen BK101.out 0
                          have hfz70_1 := blk_frozen BK101.out 1
                          have hfz70_2 := blk_frozen BK101.out 2
                          have hfz70_3 := blk_frozen BK101.out 3
                          go_wp2_with (first | ((with_reducible refine gate_callee (f := 28) rfl ?_); refine goesL_ (some 139) rfl rfl Tryd.func28 (by kernel_rfl) rfl #[.agg #[.slice A0_0 l0_0.length c0_0, .slice A0_1 l0_1.length c0_1, .int .i64 a0_2, .slice A0_3 l0_3.length c0_3], .int .i64 (rd t106 x42_3), .int .i64 (rd t123 x131_6)] rfl (by (try simp only [List.map_toArray, List.map_cons, List.map_nil]); first | done | rfl | (simp only [List.length_drop, List.length_take]; rfl)) ?_; (with_reducible refine (units_Chain.calls k6 _ _ l0_0 _ _ l0_1 a0_2 _ _ l0_3 (rd t106 x42_3) (rd t123 x131_6) t127 true _ ?side1 ?side2 ?side3 ?side4 ?side5 ?side6 ?side7 A65.out).mono ?_); (case side1 => exact Laid.below HG.out (by repeat (first | (with_reducible first | exact HB.out | apply below_alloc | apply pw_below_drewN | apply below_drew1 | refine below_set ?_ GE101.out) | exact HB.out))); (case side2 => repeat (first | exact (Kd.C_below HR0_0.out HB.out) | (with_reducible refine Kd.C_alloc ?_ _) | (with_reducible refine Kd.C_drewN ?_ _) | (with_reducible refine Kd.C_drew ?_))); (case side3 => exact HC0_0.out); (case side4 => repeat (first | exact (Kd.C_below HR0_1.out HB.out) | (with_reducible refine Kd.C_alloc ?_ _) | (with_reducible refine Kd.C_drewN ?_ _) | (with_reducible refine Kd.C_drew ?_))); (case side5 => exact HC0_1.out); (case side6 => repeat (first | exact (Kd.C_below HR0_3.out HB.out) | (with_reducible refine Kd.C_alloc ?_ _) | (with_reducible refine Kd.C_drewN ?_ _) | (with_reducible refine Kd.C_drew ?_))); (case side7 => exact HC0_3.out); rintro e w71 ⟨v128, rfl, ho0, hb⟩; refine ⟨_, rfl, ?_⟩; have n0_ := Aside0.mk (Kd.R_elder' (by (with_reducible repeat (first | apply Kd.R_alloc | apply Kd.R_drewN | apply Kd.R_drew)); exact HO_6.out) (Kd.R_base ho0) hb); have n1_ := Aside0.mk (Kd.R_elder' (by (with_reducible repeat (first | apply Kd.R_alloc | apply Kd.R_drewN | apply Kd.R_drew)); exact HO_40.out) (Kd.R_base ho0) hb); have n2_ := Aside0.mk (Kd.R_elder' (by (with_reducible repeat (first | apply Kd.R_alloc | apply Kd.R_drewN | apply Kd.R_drew)); exact HO_129.out) (Kd.R_base ho0) hb); have n3_ := Aside0.mk (Kd.R_lower (Kd.R_new' (Kd.R_new' (Kd.R_new' ho0 (Kd.R_lt (by (with_reducible repeat (first | apply Kd.R_alloc | apply Kd.R_drewN | apply Kd.R_drew)); exact HO_6.out))) (Kd.R_lt (by (with_reducible repeat (first | apply Kd.R_alloc | apply Kd.R_drewN | apply Kd.R_drew)); exact HO_40.out))) (Kd.R_lt (by (with_reducible repeat (first | apply Kd.R_alloc | apply Kd.R_drewN | apply Kd.R_drew)); exact HO_129.out))) (below_size (by repeat (first | (with_reducible first | exact HB.out | apply below_alloc | apply pw_below_drewN | apply below_drew1 | refine below_set ?_ GE101.out) | exact HB.out)))); have n4_ := Aside0.mk (blk_below (g := gb101) (o := .cells #[.slice A0_0 l0_0.length c0_0, .slice A0_1 l0_1.length c0_1, .int .i64 a0_2, .slice A0_3 l0_3.length c0_3] 25 (0, 0)) (by (with_reducible repeat (first | refine blk_drewN ?_ _ | refine blk_drew ?_ | refine blk_alloc ?_ _)); exact BK101.out) hb); have n5_ := Aside0.mk (below_step (by repeat (first | (with_reducible first | exact HB.out | apply below_alloc | apply pw_below_drewN | apply below_drew1 | refine below_set ?_ GE101.out) | exact HB.out)) hb); clear HO_6; clear HO_40; clear HO_129; clear BK101; clear HB; have HO_6 := n0_; have HO_40 := n1_; have HO_129 := n2_; have HO129 := n3_; have BK101 := n4_; have HB := n5_; clear n0_ n1_ n2_ n3_ n4_ n5_; (try clear hb); (try clear hb2); (try clear hk); (try clear hi); (try clear ho0); have hcz72_0 : w71.cell? ⟨gb101, 0, none⟩ = some (.slice A0_0 l0_0.length c0_0) := (blk_cell BK101.out 0).trans rfl; have hcz72_1 : w71.cell? ⟨gb101, 1, none⟩ = some (.slice A0_1 l0_1.length c0_1) := (blk_cell BK101.out 1).trans rfl; have hcz72_2 : w71.cell? ⟨gb101, 2, none⟩ = some (.int .i64 a0_2) := (blk_cell BK101.out 2).trans rfl; have hcz72_3 : w71.cell? ⟨gb101, 3, none⟩ = some (.slice A0_3 l0_3.length c0_3) := (blk_cell BK101.out 3).trans rfl; have hfz72_0 := blk_frozen BK101.out 0; have hfz72_1 := blk_frozen BK101.out 1; have hfz72_2 := blk_frozen BK101.out 2; have hfz72_3 := blk_frozen BK101.out 3) | ((with_reducible refine gate_callee (f := 28) rfl ?_); refine goesL_ (some 146) rfl rfl Tryd.func28 (by kernel_rfl) rfl #[.agg #[.slice A0_0 l0_0.length c0_0, .slice A0_1 l0_1.length c0_1, .int .i64 a0_2, .slice A0_3 l0_3.length c0_3], .int .i64 x35_2, .int .i64 (rd t123 x131_6)] rfl (by (try simp only [List.map_toArray, List.map_cons, List.map_nil]); first | done | rfl | (simp only [List.length_drop, List.length_take]; rfl)) ?_; (with_reducible refine (units_Chain.calls k6 _ _ l0_0 _ _ l0_1 a0_2 _ _ l0_3 x35_2 (rd t123 x131_6) t131 true _ ?side1 ?side2 ?side3 ?side4 ?side5 ?side6 ?side7 A66.out).mono ?_); (case side1 => exact Laid.below HG.out (by repeat (first | (with_reducible first | exact HB.out | apply below_alloc | apply pw_below_drewN | apply below_drew1 | refine below_set ?_ GE101.out) | exact HB.out))); (case side2 => repeat (first | exact (Kd.C_below HR0_0.out HB.out) | (with_reducible refine Kd.C_alloc ?_ _) | (with_reducible refine Kd.C_drewN ?_ _) | (with_reducible refine Kd.C_drew ?_))); (case side3 => exact HC0_0.out); (case side4 => repeat (first | exact (Kd.C_below HR0_1.out HB.out) | (with_reducible refine Kd.C_alloc ?_ _) | (with_reducible refine Kd.C_drewN ?_ _) | (with_reducible refine Kd.C_drew ?_))); (case side5 => exact HC0_1.out); (case side6 => repeat (first | exact (Kd.C_below HR0_3.out HB.out) | (with_reducible refine Kd.C_alloc ?_ _) | (with_reducible refine Kd.C_drewN ?_ _) | (with_reducible refine Kd.C_drew ?_))); (case side7 => exact HC0_3.out); rintro e w73 ⟨v132, rfl, ho0, hb⟩; refine ⟨_, rfl, ?_⟩; have n0_ := Aside0.mk (Kd.R_elder' (by (with_reducible repeat (first | apply Kd.R_alloc | apply Kd.R_drewN | apply Kd.R_drew)); exact HO_6.out) (Kd.R_base ho0) hb); have n1_ := Aside0.mk (Kd.R_elder' (by (with_reducible repeat (first | apply Kd.R_alloc | apply Kd.R_drewN | apply Kd.R_drew)); exact HO_40.out) (Kd.R_base ho0) hb); have n2_ := Aside0.mk (Kd.R_elder' (by (with_reducible repeat (first | apply Kd.R_alloc | apply Kd.R_drewN | apply Kd.R_drew)); exact HO_129.out) (Kd.R_base ho0) hb); have n3_ := Aside0.mk (Kd.R_elder' (by (with_reducible repeat (first | apply Kd.R_alloc | apply Kd.R_drewN | apply Kd.R_drew)); exact HO129.out) (Kd.R_base ho0) hb); have n4_ := Aside0.mk (Kd.R_lower (Kd.R_new' (Kd.R_new' (Kd.R_new' (Kd.R_new' ho0 (Kd.R_lt (by (with_reducible repeat (first | apply Kd.R_alloc | apply Kd.R_drewN | apply Kd.R_drew)); exact HO_6.out))) (Kd.R_lt (by (with_reducible repeat (first | apply Kd.R_alloc | apply Kd.R_drewN | apply Kd.R_drew)); exact HO_40.out))) (Kd.R_lt (by (with_reducible repeat (first | apply Kd.R_alloc | apply Kd.R_drewN | apply Kd.R_drew)); exact HO_129.out))) (Kd.R_lt (by (with_reducible repeat (first | apply Kd.R_alloc | apply Kd.R_drewN | apply Kd.R_drew)); exact HO129.out))) (below_size (by repeat (first | (with_reducible first | exact HB.out | apply below_alloc | apply pw_below_drewN | apply below_drew1 | refine below_set ?_ GE101.out) | exact HB.out)))); have n5_ := Aside0.mk (blk_below (g := gb101) (o := .cells #[.slice A0_0 l0_0.length c0_0, .slice A0_1 l0_1.length c0_1, .int .i64 a0_2, .slice A0_3 l0_3.length c0_3] 25 (0, 0)) (by (with_reducible repeat (first | refine blk_drewN ?_ _ | refine blk_drew ?_ | refine blk_alloc ?_ _)); exact BK101.out) hb); have n6_ := Aside0.mk (below_step (by repeat (first | (with_reducible first | exact HB.out | apply below_alloc | apply pw_below_drewN | apply below_drew1 | refine below_set ?_ GE101.out) | exact HB.out)) hb); clear HO_6; clear HO_40; clear HO_129; clear HO129; clear BK101; clear HB; have HO_6 := n0_; have HO_40 := n1_; have HO_129 := n2_; have HO129 := n3_; have HO133 := n4_; have BK101 := n5_; have HB := n6_; clear n0_ n1_ n2_ n3_ n4_ n5_ n6_; (try clear hb); (try clear hb2); (try clear hk); (try clear hi); (try clear ho0); obtain ⟨Ao74, co74, eo74⟩ := Kd.R_slice HO133.out; subst eo74; obtain ⟨Ao75, co75, eo75⟩ := Kd.R_slice HO129.out; subst eo75))
                          go_ret
                          exact ⟨by first | rfl | (simp [errW_none, errW_some] <;> rfl) | (simp [*, errW_none, errW_some] <;> rfl), by repeat (first | (with_reducible first | exact HB.out | apply below_alloc | apply pw_below_drewN | apply below_drew1 | refine below_set ?_ GE101.out) | exact HB.out)⟩
                         ·rw [if_neg c69] at H
                          have c69b0 : decide ((wrap64 ((t110.length : Int) + (t127.length : Int))) < (t131.length : Int)) = false := decide_eq_false c69
                          clear c69
                          have H' := Aside0.mk H
                          clear H
                          have p126 : 0 ≤ (x131_6 : Int) := of_decide_eq_true (by first | (with_reducible assumption) | assumption)
                          have q126 : x131_6 < (t123.length : Int) := of_decide_eq_true (by first | (with_reducible assumption) | assumption)
                          obtain ⟨ad126, e126, hx126_0⟩ := Kd.at_int (Kd.R_reads' HO_129.out).2.2 x131_6 p126 q126
                          cases e126
                          replace p126 := eq_true p126
                          replace q126 := eq_true q126
                          have hcz76_0 : wr.cell? ⟨gb101, 0, none⟩ = some (.slice A0_0 l0_0.length c0_0) := (blk_cell BK101.out 0).trans rfl
                          have hcz76_1 : wr.cell? ⟨gb101, 1, none⟩ = some (.slice A0_1 l0_1.length c0_1) := (blk_cell BK101.out 1).trans rfl
                          have hcz76_2 : wr.cell? ⟨gb101, 2, none⟩ = some (.int .i64 a0_2) := (blk_cell BK101.out 2).trans rfl
                          have hcz76_3 : wr.cell? ⟨gb101, 3, none⟩ = some (.slice A0_3 l0_3.length c0_3) := (blk_cell BK101.out 3).trans rfl
                          have hfz76_0 := blk_frozen BK101.out 0
                          have hfz76_1 := blk_frozen BK101.out 1
                          have hfz76_2 := blk_frozen BK101.out 2
                          have hfz76_3 := blk_frozen BK101.out 3
                          go_wp2_with (first | ((with_reducible refine gate_callee (f := 28) rfl ?_); refine goesL_ (some 139) rfl rfl Tryd.func28 (by kernel_rfl) rfl #[.agg #[.slice A0_0 l0_0.length c0_0, .slice A0_1 l0_1.length c0_1, .int .i64 a0_2, .slice A0_3 l0_3.length c0_3], .int .i64 (rd t106 x42_3), .int .i64 (rd t123 x131_6)] rfl (by (try simp only [List.map_toArray, List.map_cons, List.map_nil]); first | done | rfl | (simp only [List.length_drop, List.length_take]; rfl)) ?_; (with_reducible refine (units_Chain.calls k6 _ _ l0_0 _ _ l0_1 a0_2 _ _ l0_3 (rd t106 x42_3) (rd t123 x131_6) t127 true _ ?side1 ?side2 ?side3 ?side4 ?side5 ?side6 ?side7 A65.out).mono ?_); (case side1 => exact Laid.below HG.out (by repeat (first | (with_reducible first | exact HB.out | apply below_alloc | apply pw_below_drewN | apply below_drew1 | refine below_set ?_ GE101.out) | exact HB.out))); (case side2 => repeat (first | exact (Kd.C_below HR0_0.out HB.out) | (with_reducible refine Kd.C_alloc ?_ _) | (with_reducible refine Kd.C_drewN ?_ _) | (with_reducible refine Kd.C_drew ?_))); (case side3 => exact HC0_0.out); (case side4 => repeat (first | exact (Kd.C_below HR0_1.out HB.out) | (with_reducible refine Kd.C_alloc ?_ _) | (with_reducible refine Kd.C_drewN ?_ _) | (with_reducible refine Kd.C_drew ?_))); (case side5 => exact HC0_1.out); (case side6 => repeat (first | exact (Kd.C_below HR0_3.out HB.out) | (with_reducible refine Kd.C_alloc ?_ _) | (with_reducible refine Kd.C_drewN ?_ _) | (with_reducible refine Kd.C_drew ?_))); (case side7 => exact HC0_3.out); rintro e w77 ⟨v128, rfl, ho0, hb⟩; refine ⟨_, rfl, ?_⟩; have n0_ := Aside0.mk (Kd.R_elder' (by (with_reducible repeat (first | apply Kd.R_alloc | apply Kd.R_drewN | apply Kd.R_drew)); exact HO_6.out) (Kd.R_base ho0) hb); have n1_ := Aside0.mk (Kd.R_elder' (by (with_reducible repeat (first | apply Kd.R_alloc | apply Kd.R_drewN | apply Kd.R_drew)); exact HO_40.out) (Kd.R_base ho0) hb); have n2_ := Aside0.mk (Kd.R_elder' (by (with_reducible repeat (first | apply Kd.R_alloc | apply Kd.R_drewN | apply Kd.R_drew)); exact HO_129.out) (Kd.R_base ho0) hb); have n3_ := Aside0.mk (Kd.R_lower (Kd.R_new' (Kd.R_new' (Kd.R_new' ho0 (Kd.R_lt (by (with_reducible repeat (first | apply Kd.R_alloc | apply Kd.R_drewN | apply Kd.R_drew)); exact HO_6.out))) (Kd.R_lt (by (with_reducible repeat (first | apply Kd.R_alloc | apply Kd.R_drewN | apply Kd.R_drew)); exact HO_40.out))) (Kd.R_lt (by (with_reducible repeat (first | apply Kd.R_alloc | apply Kd.R_drewN | apply Kd.R_drew)); exact HO_129.out))) (below_size (by repeat (first | (with_reducible first | exact HB.out | apply below_alloc | apply pw_below_drewN | apply below_drew1 | refine below_set ?_ GE101.out) | exact HB.out)))); have n4_ := Aside0.mk (blk_below (g := gb101) (o := .cells #[.slice A0_0 l0_0.length c0_0, .slice A0_1 l0_1.length c0_1, .int .i64 a0_2, .slice A0_3 l0_3.length c0_3] 25 (0, 0)) (by (with_reducible repeat (first | refine blk_drewN ?_ _ | refine blk_drew ?_ | refine blk_alloc ?_ _)); exact BK101.out) hb); have n5_ := Aside0.mk (below_step (by repeat (first | (with_reducible first | exact HB.out | apply below_alloc | apply pw_below_drewN | apply below_drew1 | refine below_set ?_ GE101.out) | exact HB.out)) hb); clear HO_6; clear HO_40; clear HO_129; clear BK101; clear HB; have HO_6 := n0_; have HO_40 := n1_; have HO_129 := n2_; have HO129 := n3_; have BK101 := n4_; have HB := n5_; clear n0_ n1_ n2_ n3_ n4_ n5_; (try clear hb); (try clear hb2); (try clear hk); (try clear hi); (try clear ho0); have hcz78_0 : w77.cell? ⟨gb101, 0, none⟩ = some (.slice A0_0 l0_0.length c0_0) := (blk_cell BK101.out 0).trans rfl; have hcz78_1 : w77.cell? ⟨gb101, 1, none⟩ = some (.slice A0_1 l0_1.length c0_1) := (blk_cell BK101.out 1).trans rfl; have hcz78_2 : w77.cell? ⟨gb101, 2, none⟩ = some (.int .i64 a0_2) := (blk_cell BK101.out 2).trans rfl; have hcz78_3 : w77.cell? ⟨gb101, 3, none⟩ = some (.slice A0_3 l0_3.length c0_3) := (blk_cell BK101.out 3).trans rfl; have hfz78_0 := blk_frozen BK101.out 0; have hfz78_1 := blk_frozen BK101.out 1; have hfz78_2 := blk_frozen BK101.out 2; have hfz78_3 := blk_frozen BK101.out 3) | ((with_reducible refine gate_callee (f := 28) rfl ?_); refine goesL_ (some 146) rfl rfl Tryd.func28 (by kernel_rfl) rfl #[.agg #[.slice A0_0 l0_0.length c0_0, .slice A0_1 l0_1.length c0_1, .int .i64 a0_2, .slice A0_3 l0_3.length c0_3], .int .i64 x35_2, .int .i64 (rd t123 x131_6)] rfl (by (try simp only [List.map_toArray, List.map_cons, List.map_nil]); first | done | rfl | (simp only [List.length_drop, List.length_take]; rfl)) ?_; (with_reducible refine (units_Chain.calls k6 _ _ l0_0 _ _ l0_1 a0_2 _ _ l0_3 x35_2 (rd t123 x131_6) t131 true _ ?side1 ?side2 ?side3 ?side4 ?side5 ?side6 ?side7 A66.out).mono ?_); (case side1 => exact Laid.below HG.out (by repeat (first | (with_reducible first | exact HB.out | apply below_alloc | apply pw_below_drewN | apply below_drew1 | refine below_set ?_ GE101.out) | exact HB.out))); (case side2 => repeat (first | exact (Kd.C_below HR0_0.out HB.out) | (with_reducible refine Kd.C_alloc ?_ _) | (with_reducible refine Kd.C_drewN ?_ _) | (with_reducible refine Kd.C_drew ?_))); (case side3 => exact HC0_0.out); (case side4 => repeat (first | exact (Kd.C_below HR0_1.out HB.out) | (with_reducible refine Kd.C_alloc ?_ _) | (with_reducible refine Kd.C_drewN ?_ _) | (with_reducible refine Kd.C_drew ?_))); (case side5 => exact HC0_1.out); (case side6 => repeat (first | exact (Kd.C_below HR0_3.out HB.out) | (with_reducible refine Kd.C_alloc ?_ _) | (with_reducible refine Kd.C_drewN ?_ _) | (with_reducible refine Kd.C_drew ?_))); (case side7 => exact HC0_3.out); rintro e w79 ⟨v132, rfl, ho0, hb⟩; refine ⟨_, rfl, ?_⟩; have n0_ := Aside0.mk (Kd.R_elder' (by (with_reducible repeat (first | apply Kd.R_alloc | apply Kd.R_drewN | apply Kd.R_drew)); exact HO_6.out) (Kd.R_base ho0) hb); have n1_ := Aside0.mk (Kd.R_elder' (by (with_reducible repeat (first | apply Kd.R_alloc | apply Kd.R_drewN | apply Kd.R_drew)); exact HO_40.out) (Kd.R_base ho0) hb); have n2_ := Aside0.mk (Kd.R_elder' (by (with_reducible repeat (first | apply Kd.R_alloc | apply Kd.R_drewN | apply Kd.R_drew)); exact HO_129.out) (Kd.R_base ho0) hb); have n3_ := Aside0.mk (Kd.R_elder' (by (with_reducible repeat (first | apply Kd.R_alloc | apply Kd.R_drewN | apply Kd.R_drew)); exact HO129.out) (Kd.R_base ho0) hb); have n4_ := Aside0.mk (Kd.R_lower (Kd.R_new' (Kd.R_new' (Kd.R_new' (Kd.R_new' ho0 (Kd.R_lt (by (with_reducible repeat (first | apply Kd.R_alloc | apply Kd.R_drewN | apply Kd.R_drew)); exact HO_6.out))) (Kd.R_lt (by (with_reducible repeat (first | apply Kd.R_alloc | apply Kd.R_drewN | apply Kd.R_drew)); exact HO_40.out))) (Kd.R_lt (by (with_reducible repeat (first | apply Kd.R_alloc | apply Kd.R_drewN | apply Kd.R_drew)); exact HO_129.out))) (Kd.R_lt (by (with_reducible repeat (first | apply Kd.R_alloc | apply Kd.R_drewN | apply Kd.R_drew)); exact HO129.out))) (below_size (by repeat (first | (with_reducible first | exact HB.out | apply below_alloc | apply pw_below_drewN | apply below_drew1 | refine below_set ?_ GE101.out) | exact HB.out)))); have n5_ := Aside0.mk (blk_below (g := gb101) (o := .cells #[.slice A0_0 l0_0.length c0_0, .slice A0_1 l0_1.length c0_1, .int .i64 a0_2, .slice A0_3 l0_3.length c0_3] 25 (0, 0)) (by (with_reducible repeat (first | refine blk_drewN ?_ _ | refine blk_drew ?_ | refine blk_alloc ?_ _)); exact BK101.out) hb); have n6_ := Aside0.mk (below_step (by repeat (first | (with_reducible first | exact HB.out | apply below_alloc | apply pw_below_drewN | apply below_drew1 | refine below_set ?_ GE101.out) | exact HB.out)) hb); clear HO_6; clear HO_40; clear HO_129; clear HO129; clear BK101; clear HB; have HO_6 := n0_; have HO_40 := n1_; have HO_129 := n2_; have HO129 := n3_; have HO133 := n4_; have BK101 := n5_; have HB := n6_; clear n0_ n1_ n2_ n3_ n4_ n5_ n6_; (try clear hb); (try clear hb2); (try clear hk); (try clear hi); (try clear ho0); obtain ⟨Ao80, co80, eo80⟩ := Kd.R_slice HO133.out; subst eo80; obtain ⟨Ao81, co81, eo81⟩ := Kd.R_slice HO129.out; subst eo81))
                          go_roundg k6
                          case measure => have := HJ1.out; have := HK2.out; have := HK3.out; have := HK4.out; have := HJ52.out; have := HK6.out; omega
                          case rel => exact ⟨(wrap64 (x131_6 + 1)), (by first | rfl | (simp; done) | (simp [*]; done)), H', ⟨by have := HJ1.out; have := HK2.out; have := HK3.out; have := HK4.out; have := HJ52.out; have := HK6.out; omega⟩, ⟨by (with_reducible repeat (first | apply Kd.R_alloc | apply Kd.R_drewN | apply Kd.R_drew)); exact Kd.R_mono HO_6.out (fun _ hk => ⟨hk.1.1.1, hk.1.1.2⟩)⟩, ⟨by (with_reducible repeat (first | apply Kd.R_alloc | apply Kd.R_drewN | apply Kd.R_drew)); exact Kd.R_mono HO_40.out (fun _ hk => ⟨hk.1.1.1, hk.1.1.2⟩)⟩, ⟨by (with_reducible repeat (first | apply Kd.R_alloc | apply Kd.R_drewN | apply Kd.R_drew)); exact Kd.R_mono HO_129.out (fun _ hk => ⟨hk.1.1.1, hk.1.1.2⟩)⟩, ⟨by (with_reducible repeat (first | refine blk_drewN ?_ _ | refine blk_drew ?_ | refine blk_alloc ?_ _)); exact BK101.out⟩, ⟨by repeat (first | (with_reducible first | exact HB.out | apply below_alloc | apply pw_below_drewN | apply below_drew1 | refine below_set ?_ GE101.out) | exact HB.out)⟩⟩
                        ·replace c68 := Bool.eq_false_iff.mpr c68
                         subst c68
                         have H1 : (some false) = some r := by rw [if_neg (show ¬ (false = true) by decide)] at H; exact H
                         clear H
                         have H := H1
                         clear H1
                         obtain rfl := Option.some.inj H
                         have p126 : 0 ≤ (x131_6 : Int) := of_decide_eq_true (by first | (with_reducible assumption) | assumption)
                         have q126 : x131_6 < (t123.length : Int) := of_decide_eq_true (by first | (with_reducible assumption) | assumption)
                         obtain ⟨ad126, e126, hx126_0⟩ := Kd.at_int (Kd.R_reads' HO_129.out).2.2 x131_6 p126 q126
                         cases e126
                         replace p126 := eq_true p126
                         replace q126 := eq_true q126
                         have hcz82_0 : wr.cell? ⟨gb101, 0, none⟩ = some (.slice A0_0 l0_0.length c0_0) := (blk_cell BK101.out 0).trans rfl
                         have hcz82_1 : wr.cell? ⟨gb101, 1, none⟩ = some (.slice A0_1 l0_1.length c0_1) := (blk_cell BK101.out 1).trans rfl
                         have hcz82_2 : wr.cell? ⟨gb101, 2, none⟩ = some (.int .i64 a0_2) := (blk_cell BK101.out 2).trans rfl
                         have hcz82_3 : wr.cell? ⟨gb101, 3, none⟩ = some (.slice A0_3 l0_3.length c0_3) := (blk_cell BK101.out 3).trans rfl
                         have hfz82_0 := blk_frozen BK101.out 0
                         have hfz82_1 := blk_frozen BK101.out 1
                         have hfz82_2 := blk_frozen BK101.out 2
                         have hfz82_3 := blk_frozen BK101.out 3
                         go_wp2_with (first | ((with_reducible refine gate_callee (f := 28) rfl ?_); refine goesL_ (some 139) rfl rfl Tryd.func28 (by kernel_rfl) rfl #[.agg #[.slice A0_0 l0_0.length c0_0, .slice A0_1 l0_1.length c0_1, .int .i64 a0_2, .slice A0_3 l0_3.length c0_3], .int .i64 (rd t106 x42_3), .int .i64 (rd t123 x131_6)] rfl (by (try simp only [List.map_toArray, List.map_cons, List.map_nil]); first | done | rfl | (simp only [List.length_drop, List.length_take]; rfl)) ?_; (with_reducible refine (units_Chain.calls k6 _ _ l0_0 _ _ l0_1 a0_2 _ _ l0_3 (rd t106 x42_3) (rd t123 x131_6) t127 true _ ?side1 ?side2 ?side3 ?side4 ?side5 ?side6 ?side7 A65.out).mono ?_); (case side1 => exact Laid.below HG.out (by repeat (first | (with_reducible first | exact HB.out | apply below_alloc | apply pw_below_drewN | apply below_drew1 | refine below_set ?_ GE101.out) | exact HB.out))); (case side2 => repeat (first | exact (Kd.C_below HR0_0.out HB.out) | (with_reducible refine Kd.C_alloc ?_ _) | (with_reducible refine Kd.C_drewN ?_ _) | (with_reducible refine Kd.C_drew ?_))); (case side3 => exact HC0_0.out); (case side4 => repeat (first | exact (Kd.C_below HR0_1.out HB.out) | (with_reducible refine Kd.C_alloc ?_ _) | (with_reducible refine Kd.C_drewN ?_ _) | (with_reducible refine Kd.C_drew ?_))); (case side5 => exact HC0_1.out); (case side6 => repeat (first | exact (Kd.C_below HR0_3.out HB.out) | (with_reducible refine Kd.C_alloc ?_ _) | (with_reducible refine Kd.C_drewN ?_ _) | (with_reducible refine Kd.C_drew ?_))); (case side7 => exact HC0_3.out); rintro e w83 ⟨v128, rfl, ho0, hb⟩; refine ⟨_, rfl, ?_⟩; have n0_ := Aside0.mk (Kd.R_elder' (by (with_reducible repeat (first | apply Kd.R_alloc | apply Kd.R_drewN | apply Kd.R_drew)); exact HO_6.out) (Kd.R_base ho0) hb); have n1_ := Aside0.mk (Kd.R_elder' (by (with_reducible repeat (first | apply Kd.R_alloc | apply Kd.R_drewN | apply Kd.R_drew)); exact HO_40.out) (Kd.R_base ho0) hb); have n2_ := Aside0.mk (Kd.R_elder' (by (with_reducible repeat (first | apply Kd.R_alloc | apply Kd.R_drewN | apply Kd.R_drew)); exact HO_129.out) (Kd.R_base ho0) hb); have n3_ := Aside0.mk (Kd.R_lower (Kd.R_new' (Kd.R_new' (Kd.R_new' ho0 (Kd.R_lt (by (with_reducible repeat (first | apply Kd.R_alloc | apply Kd.R_drewN | apply Kd.R_drew)); exact HO_6.out))) (Kd.R_lt (by (with_reducible repeat (first | apply Kd.R_alloc | apply Kd.R_drewN | apply Kd.R_drew)); exact HO_40.out))) (Kd.R_lt (by (with_reducible repeat (first | apply Kd.R_alloc | apply Kd.R_drewN | apply Kd.R_drew)); exact HO_129.out))) (below_size (by repeat (first | (with_reducible first | exact HB.out | apply below_alloc | apply pw_below_drewN | apply below_drew1 | refine below_set ?_ GE101.out) | exact HB.out)))); have n4_ := Aside0.mk (blk_below (g := gb101) (o := .cells #[.slice A0_0 l0_0.length c0_0, .slice A0_1 l0_1.length c0_1, .int .i64 a0_2, .slice A0_3 l0_3.length c0_3] 25 (0, 0)) (by (with_reducible repeat (first | refine blk_drewN ?_ _ | refine blk_drew ?_ | refine blk_alloc ?_ _)); exact BK101.out) hb); have n5_ := Aside0.mk (below_step (by repeat (first | (with_reducible first | exact HB.out | apply below_alloc | apply pw_below_drewN | apply below_drew1 | refine below_set ?_ GE101.out) | exact HB.out)) hb); clear HO_6; clear HO_40; clear HO_129; clear BK101; clear HB; have HO_6 := n0_; have HO_40 := n1_; have HO_129 := n2_; have HO129 := n3_; have BK101 := n4_; have HB := n5_; clear n0_ n1_ n2_ n3_ n4_ n5_; (try clear hb); (try clear hb2); (try clear hk); (try clear hi); (try clear ho0); have hcz84_0 : w83.cell? ⟨gb101, 0, none⟩ = some (.slice A0_0 l0_0.length c0_0) := (blk_cell BK101.out 0).trans rfl; have hcz84_1 : w83.cell? ⟨gb101, 1, none⟩ = some (.slice A0_1 l0_1.length c0_1) := (blk_cell BK101.out 1).trans rfl; have hcz84_2 : w83.cell? ⟨gb101, 2, none⟩ = some (.int .i64 a0_2) := (blk_cell BK101.out 2).trans rfl; have hcz84_3 : w83.cell? ⟨gb101, 3, none⟩ = some (.slice A0_3 l0_3.length c0_3) := (blk_cell BK101.out 3).trans rfl; have hfz84_0 := blk_frozen BK101.out 0; have hfz84_1 := blk_frozen BK101.out 1; have hfz84_2 := blk_frozen BK101.out 2; have hfz84_3 := blk_frozen BK101.out 3) | ((with_reducible refine gate_callee (f := 28) rfl ?_); refine goesL_ (some 146) rfl rfl Tryd.func28 (by kernel_rfl) rfl #[.agg #[.slice A0_0 l0_0.length c0_0, .slice A0_1 l0_1.length c0_1, .int .i64 a0_2, .slice A0_3 l0_3.length c0_3], .int .i64 x35_2, .int .i64 (rd t123 x131_6)] rfl (by (try simp only [List.map_toArray, List.map_cons, List.map_nil]); first | done | rfl | (simp only [List.length_drop, List.length_take]; rfl)) ?_; (with_reducible refine (units_Chain.calls k6 _ _ l0_0 _ _ l0_1 a0_2 _ _ l0_3 x35_2 (rd t123 x131_6) t131 false _ ?side1 ?side2 ?side3 ?side4 ?side5 ?side6 ?side7 A66.out).mono ?_); (case side1 => exact Laid.below HG.out (by repeat (first | (with_reducible first | exact HB.out | apply below_alloc | apply pw_below_drewN | apply below_drew1 | refine below_set ?_ GE101.out) | exact HB.out))); (case side2 => repeat (first | exact (Kd.C_below HR0_0.out HB.out) | (with_reducible refine Kd.C_alloc ?_ _) | (with_reducible refine Kd.C_drewN ?_ _) | (with_reducible refine Kd.C_drew ?_))); (case side3 => exact HC0_0.out); (case side4 => repeat (first | exact (Kd.C_below HR0_1.out HB.out) | (with_reducible refine Kd.C_alloc ?_ _) | (with_reducible refine Kd.C_drewN ?_ _) | (with_reducible refine Kd.C_drew ?_))); (case side5 => exact HC0_1.out); (case side6 => repeat (first | exact (Kd.C_below HR0_3.out HB.out) | (with_reducible refine Kd.C_alloc ?_ _) | (with_reducible refine Kd.C_drewN ?_ _) | (with_reducible refine Kd.C_drew ?_))); (case side7 => exact HC0_3.out); rintro e w85 ⟨v132, rfl, ho0, hb⟩; refine ⟨_, rfl, ?_⟩; have n0_ := Aside0.mk (Kd.R_elder' (by (with_reducible repeat (first | apply Kd.R_alloc | apply Kd.R_drewN | apply Kd.R_drew)); exact HO_6.out) (Kd.R_base ho0) hb); have n1_ := Aside0.mk (Kd.R_elder' (by (with_reducible repeat (first | apply Kd.R_alloc | apply Kd.R_drewN | apply Kd.R_drew)); exact HO_40.out) (Kd.R_base ho0) hb); have n2_ := Aside0.mk (Kd.R_elder' (by (with_reducible repeat (first | apply Kd.R_alloc | apply Kd.R_drewN | apply Kd.R_drew)); exact HO_129.out) (Kd.R_base ho0) hb); have n3_ := Aside0.mk (Kd.R_elder' (by (with_reducible repeat (first | apply Kd.R_alloc | apply Kd.R_drewN | apply Kd.R_drew)); exact HO129.out) (Kd.R_base ho0) hb); have n4_ := Aside0.mk (Kd.R_lower (Kd.R_new' (Kd.R_new' (Kd.R_new' (Kd.R_new' ho0 (Kd.R_lt (by (with_reducible repeat (first | apply Kd.R_alloc | apply Kd.R_drewN | apply Kd.R_drew)); exact HO_6.out))) (Kd.R_lt (by (with_reducible repeat (first | apply Kd.R_alloc | apply Kd.R_drewN | apply Kd.R_drew)); exact HO_40.out))) (Kd.R_lt (by (with_reducible repeat (first | apply Kd.R_alloc | apply Kd.R_drewN | apply Kd.R_drew)); exact HO_129.out))) (Kd.R_lt (by (with_reducible repeat (first | apply Kd.R_alloc | apply Kd.R_drewN | apply Kd.R_drew)); exact HO129.out))) (below_size (by repeat (first | (with_reducible first | exact HB.out | apply below_alloc | apply pw_below_drewN | apply below_drew1 | refine below_set ?_ GE101.out) | exact HB.out)))); have n5_ := Aside0.mk (blk_below (g := gb101) (o := .cells #[.slice A0_0 l0_0.length c0_0, .slice A0_1 l0_1.length c0_1, .int .i64 a0_2, .slice A0_3 l0_3.length c0_3] 25 (0, 0)) (by (with_reducible repeat (first | refine blk_drewN ?_ _ | refine blk_drew ?_ | refine blk_alloc ?_ _)); exact BK101.out) hb); have n6_ := Aside0.mk (below_step (by repeat (first | (with_reducible first | exact HB.out | apply below_alloc | apply pw_below_drewN | apply below_drew1 | refine below_set ?_ GE101.out) | exact HB.out)) hb); clear HO_6; clear HO_40; clear HO_129; clear HO129; clear BK101; clear HB; have HO_6 := n0_; have HO_40 := n1_; have HO_129 := n2_; have HO129 := n3_; have HO133 := n4_; have BK101 := n5_; have HB := n6_; clear n0_ n1_ n2_ n3_ n4_ n5_ n6_; (try clear hb); (try clear hb2); (try clear hk); (try clear hi); (try clear ho0)))
                         go_ret
                         exact ⟨by first | rfl | (simp [errW_none, errW_some] <;> rfl) | (simp [*, errW_none, errW_some] <;> rfl), by repeat (first | (with_reducible first | exact HB.out | apply below_alloc | apply pw_below_drewN | apply below_drew1 | refine below_set ?_ GE101.out) | exact HB.out)⟩
                       ·replace c67 := Bool.eq_false_iff.mpr c67
                        subst c67
                        have H1 : (some false) = some r := by rw [if_neg (show ¬ (false = true) by decide)] at H; exact H
                        clear H
                        have H := H1
                        clear H1
                        obtain rfl := Option.some.inj H
                        have p126 : 0 ≤ (x131_6 : Int) := of_decide_eq_true (by first | (with_reducible assumption) | assumption)
                        have q126 : x131_6 < (t123.length : Int) := of_decide_eq_true (by first | (with_reducible assumption) | assumption)
                        obtain ⟨ad126, e126, hx126_0⟩ := Kd.at_int (Kd.R_reads' HO_129.out).2.2 x131_6 p126 q126
                        cases e126
                        replace p126 := eq_true p126
                        replace q126 := eq_true q126
                        have hcz86_0 : wr.cell? ⟨gb101, 0, none⟩ = some (.slice A0_0 l0_0.length c0_0) := (blk_cell BK101.out 0).trans rfl
                        have hcz86_1 : wr.cell? ⟨gb101, 1, none⟩ = some (.slice A0_1 l0_1.length c0_1) := (blk_cell BK101.out 1).trans rfl
                        have hcz86_2 : wr.cell? ⟨gb101, 2, none⟩ = some (.int .i64 a0_2) := (blk_cell BK101.out 2).trans rfl
                        have hcz86_3 : wr.cell? ⟨gb101, 3, none⟩ = some (.slice A0_3 l0_3.length c0_3) := (blk_cell BK101.out 3).trans rfl
                        have hfz86_0 := blk_frozen BK101.out 0
                        have hfz86_1 := blk_frozen BK101.out 1
                        have hfz86_2 := blk_frozen BK101.out 2
                        have hfz86_3 := blk_frozen BK101.out 3
                        go_wp2_with (first | ((with_reducible refine gate_callee (f := 28) rfl ?_); refine goesL_ (some 139) rfl rfl Tryd.func28 (by kernel_rfl) rfl #[.agg #[.slice A0_0 l0_0.length c0_0, .slice A0_1 l0_1.length c0_1, .int .i64 a0_2, .slice A0_3 l0_3.length c0_3], .int .i64 (rd t106 x42_3), .int .i64 (rd t123 x131_6)] rfl (by (try simp only [List.map_toArray, List.map_cons, List.map_nil]); first | done | rfl | (simp only [List.length_drop, List.length_take]; rfl)) ?_; (with_reducible refine (units_Chain.calls k6 _ _ l0_0 _ _ l0_1 a0_2 _ _ l0_3 (rd t106 x42_3) (rd t123 x131_6) t127 false _ ?side1 ?side2 ?side3 ?side4 ?side5 ?side6 ?side7 A65.out).mono ?_); (case side1 => exact Laid.below HG.out (by repeat (first | (with_reducible first | exact HB.out | apply below_alloc | apply pw_below_drewN | apply below_drew1 | refine below_set ?_ GE101.out) | exact HB.out))); (case side2 => repeat (first | exact (Kd.C_below HR0_0.out HB.out) | (with_reducible refine Kd.C_alloc ?_ _) | (with_reducible refine Kd.C_drewN ?_ _) | (with_reducible refine Kd.C_drew ?_))); (case side3 => exact HC0_0.out); (case side4 => repeat (first | exact (Kd.C_below HR0_1.out HB.out) | (with_reducible refine Kd.C_alloc ?_ _) | (with_reducible refine Kd.C_drewN ?_ _) | (with_reducible refine Kd.C_drew ?_))); (case side5 => exact HC0_1.out); (case side6 => repeat (first | exact (Kd.C_below HR0_3.out HB.out) | (with_reducible refine Kd.C_alloc ?_ _) | (with_reducible refine Kd.C_drewN ?_ _) | (with_reducible refine Kd.C_drew ?_))); (case side7 => exact HC0_3.out); rintro e w87 ⟨v128, rfl, ho0, hb⟩; refine ⟨_, rfl, ?_⟩; have n0_ := Aside0.mk (Kd.R_elder' (by (with_reducible repeat (first | apply Kd.R_alloc | apply Kd.R_drewN | apply Kd.R_drew)); exact HO_6.out) (Kd.R_base ho0) hb); have n1_ := Aside0.mk (Kd.R_elder' (by (with_reducible repeat (first | apply Kd.R_alloc | apply Kd.R_drewN | apply Kd.R_drew)); exact HO_40.out) (Kd.R_base ho0) hb); have n2_ := Aside0.mk (Kd.R_elder' (by (with_reducible repeat (first | apply Kd.R_alloc | apply Kd.R_drewN | apply Kd.R_drew)); exact HO_129.out) (Kd.R_base ho0) hb); have n3_ := Aside0.mk (Kd.R_lower (Kd.R_new' (Kd.R_new' (Kd.R_new' ho0 (Kd.R_lt (by (with_reducible repeat (first | apply Kd.R_alloc | apply Kd.R_drewN | apply Kd.R_drew)); exact HO_6.out))) (Kd.R_lt (by (with_reducible repeat (first | apply Kd.R_alloc | apply Kd.R_drewN | apply Kd.R_drew)); exact HO_40.out))) (Kd.R_lt (by (with_reducible repeat (first | apply Kd.R_alloc | apply Kd.R_drewN | apply Kd.R_drew)); exact HO_129.out))) (below_size (by repeat (first | (with_reducible first | exact HB.out | apply below_alloc | apply pw_below_drewN | apply below_drew1 | refine below_set ?_ GE101.out) | exact HB.out)))); have n4_ := Aside0.mk (blk_below (g := gb101) (o := .cells #[.slice A0_0 l0_0.length c0_0, .slice A0_1 l0_1.length c0_1, .int .i64 a0_2, .slice A0_3 l0_3.length c0_3] 25 (0, 0)) (by (with_reducible repeat (first | refine blk_drewN ?_ _ | refine blk_drew ?_ | refine blk_alloc ?_ _)); exact BK101.out) hb); have n5_ := Aside0.mk (below_step (by repeat (first | (with_reducible first | exact HB.out | apply below_alloc | apply pw_below_drewN | apply below_drew1 | refine below_set ?_ GE101.out) | exact HB.out)) hb); clear HO_6; clear HO_40; clear HO_129; clear BK101; clear HB; have HO_6 := n0_; have HO_40 := n1_; have HO_129 := n2_; have HO129 := n3_; have BK101 := n4_; have HB := n5_; clear n0_ n1_ n2_ n3_ n4_ n5_; (try clear hb); (try clear hb2); (try clear hk); (try clear hi); (try clear ho0); have hcz88_0 : w87.cell? ⟨gb101, 0, none⟩ = some (.slice A0_0 l0_0.length c0_0) := (blk_cell BK101.out 0).trans rfl; have hcz88_1 : w87.cell? ⟨gb101, 1, none⟩ = some (.slice A0_1 l0_1.length c0_1) := (blk_cell BK101.out 1).trans rfl; have hcz88_2 : w87.cell? ⟨gb101, 2, none⟩ = some (.int .i64 a0_2) := (blk_cell BK101.out 2).trans rfl; have hcz88_3 : w87.cell? ⟨gb101, 3, none⟩ = some (.slice A0_3 l0_3.length c0_3) := (blk_cell BK101.out 3).trans rfl; have hfz88_0 := blk_frozen BK101.out 0; have hfz88_1 := blk_frozen BK101.out 1; have hfz88_2 := blk_frozen BK101.out 2; have hfz88_3 := blk_frozen BK101.out 3) | ((with_reducible refine gate_callee (f := 28) rfl ?_); refine goesL_ (some 146) rfl rfl Tryd.func28 (by kernel_rfl) rfl #[.agg #[.slice A0_0 l0_0.length c0_0, .slice A0_1 l0_1.length c0_1, .int .i64 a0_2, .slice A0_3 l0_3.length c0_3], .int .i64 x35_2, .int .i64 (rd t123 x131_6)] rfl (by (try simp only [List.map_toArray, List.map_cons, List.map_nil]); first | done | rfl | (simp only [List.length_drop, List.length_take]; rfl)) ?_; (with_reducible refine (units_Chain.calls k6 _ _ l0_0 _ _ l0_1 a0_2 _ _ l0_3 x35_2 (rd t123 x131_6) t131 t134 _ ?side1 ?side2 ?side3 ?side4 ?side5 ?side6 ?side7 A66.out).mono ?_); (case side1 => exact Laid.below HG.out (by repeat (first | (with_reducible first | exact HB.out | apply below_alloc | apply pw_below_drewN | apply below_drew1 | refine below_set ?_ GE101.out) | exact HB.out))); (case side2 => repeat (first | exact (Kd.C_below HR0_0.out HB.out) | (with_reducible refine Kd.C_alloc ?_ _) | (with_reducible refine Kd.C_drewN ?_ _) | (with_reducible refine Kd.C_drew ?_))); (case side3 => exact HC0_0.out); (case side4 => repeat (first | exact (Kd.C_below HR0_1.out HB.out) | (with_reducible refine Kd.C_alloc ?_ _) | (with_reducible refine Kd.C_drewN ?_ _) | (with_reducible refine Kd.C_drew ?_))); (case side5 => exact HC0_1.out); (case side6 => repeat (first | exact (Kd.C_below HR0_3.out HB.out) | (with_reducible refine Kd.C_alloc ?_ _) | (with_reducible refine Kd.C_drewN ?_ _) | (with_reducible refine Kd.C_drew ?_))); (case side7 => exact HC0_3.out); rintro e w89 ⟨v132, rfl, ho0, hb⟩; refine ⟨_, rfl, ?_⟩; have n0_ := Aside0.mk (Kd.R_elder' (by (with_reducible repeat (first | apply Kd.R_alloc | apply Kd.R_drewN | apply Kd.R_drew)); exact HO_6.out) (Kd.R_base ho0) hb); have n1_ := Aside0.mk (Kd.R_elder' (by (with_reducible repeat (first | apply Kd.R_alloc | apply Kd.R_drewN | apply Kd.R_drew)); exact HO_40.out) (Kd.R_base ho0) hb); have n2_ := Aside0.mk (Kd.R_elder' (by (with_reducible repeat (first | apply Kd.R_alloc | apply Kd.R_drewN | apply Kd.R_drew)); exact HO_129.out) (Kd.R_base ho0) hb); have n3_ := Aside0.mk (Kd.R_elder' (by (with_reducible repeat (first | apply Kd.R_alloc | apply Kd.R_drewN | apply Kd.R_drew)); exact HO129.out) (Kd.R_base ho0) hb); have n4_ := Aside0.mk (Kd.R_lower (Kd.R_new' (Kd.R_new' (Kd.R_new' (Kd.R_new' ho0 (Kd.R_lt (by (with_reducible repeat (first | apply Kd.R_alloc | apply Kd.R_drewN | apply Kd.R_drew)); exact HO_6.out))) (Kd.R_lt (by (with_reducible repeat (first | apply Kd.R_alloc | apply Kd.R_drewN | apply Kd.R_drew)); exact HO_40.out))) (Kd.R_lt (by (with_reducible repeat (first | apply Kd.R_alloc | apply Kd.R_drewN | apply Kd.R_drew)); exact HO_129.out))) (Kd.R_lt (by (with_reducible repeat (first | apply Kd.R_alloc | apply Kd.R_drewN | apply Kd.R_drew)); exact HO129.out))) (below_size (by repeat (first | (with_reducible first | exact HB.out | apply below_alloc | apply pw_below_drewN | apply below_drew1 | refine below_set ?_ GE101.out) | exact HB.out)))); have n5_ := Aside0.mk (blk_below (g := gb101) (o := .cells #[.slice A0_0 l0_0.length c0_0, .slice A0_1 l0_1.length c0_1, .int .i64 a0_2, .slice A0_3 l0_3.length c0_3] 25 (0, 0)) (by (with_reducible repeat (first | refine blk_drewN ?_ _ | refine blk_drew ?_ | refine blk_alloc ?_ _)); exact BK101.out) hb); have n6_ := Aside0.mk (below_step (by repeat (first | (with_reducible first | exact HB.out | apply below_alloc | apply pw_below_drewN | apply below_drew1 | refine below_set ?_ GE101.out) | exact HB.out)) hb); clear HO_6; clear HO_40; clear HO_129; clear HO129; clear BK101; clear HB; have HO_6 := n0_; have HO_40 := n1_; have HO_129 := n2_; have HO129 := n3_; have HO133 := n4_; have BK101 := n5_; have HB := n6_; clear n0_ n1_ n2_ n3_ n4_ n5_ n6_; (try clear hb); (try clear hb2); (try clear hk); (try clear hi); (try clear ho0)))
                        go_ret
                        exact ⟨by first | rfl | (simp [errW_none, errW_some] <;> rfl) | (simp [*, errW_none, errW_some] <;> rfl), by repeat (first | (with_reducible first | exact HB.out | apply below_alloc | apply pw_below_drewN | apply below_drew1 | refine below_set ?_ GE101.out) | exact HB.out)⟩
                      ·rw [if_neg c64] at H
                       exact absurd H (by simp)
                     ·rw [if_neg c63] at H
                      exact absurd H (by simp)
                    ·rw [if_neg c62] at H
                     have c62b0 : decide (x131_6 < (t123.length : Int)) = false := decide_eq_false c62
                     clear c62
                     have H' := Aside0.mk H
                     clear H
                     go_wp2
                     go_roundg k6
                     case measure => have := HJ1.out; have := HK2.out; have := HK3.out; have := HK4.out; have := HJ52.out; have := HK6.out; omega
                     case rel => exact ⟨(wrap64 (x42_3 + 1)), (by first | rfl | (simp; done) | (simp [*]; done)), H', ⟨by have := HJ1.out; have := HK2.out; have := HK3.out; have := HK4.out; have := HJ52.out; have := HK6.out; omega⟩, ⟨by (with_reducible repeat (first | apply Kd.R_alloc | apply Kd.R_drewN | apply Kd.R_drew)); exact Kd.R_mono HO_40.out (fun _ hk => trivial)⟩, ⟨by (with_reducible repeat (first | refine blk_drewN ?_ _ | refine blk_drew ?_ | refine blk_alloc ?_ _)); exact BK101.out⟩, ⟨by repeat (first | (with_reducible first | exact HB.out | apply below_alloc | apply pw_below_drewN | apply below_drew1 | refine below_set ?_ GE101.out) | exact HB.out)⟩⟩
           ·rw [if_neg c30] at H
            exact absurd H (by simp)
          ·rw [if_neg c29] at H
           exact absurd H (by simp)
         ·rw [if_neg c28] at H
          have c28b0 : decide (x42_3 < (t106.length : Int)) = false := decide_eq_false c28
          clear c28
          have H' := Aside0.mk H
          clear H
          go_wp2
          go_roundg k3
          case measure => have := HJ1.out; have := HK2.out; have := HK3.out; omega
          case rel => exact ⟨(wrap64 (x35_2 + 1)), (by first | rfl | (simp; done) | (simp [*]; done)), H', ⟨by have := HJ1.out; have := HK2.out; have := HK3.out; omega⟩, ⟨by (with_reducible repeat (first | refine blk_drewN ?_ _ | refine blk_drew ?_ | refine blk_alloc ?_ _)); exact BK101.out⟩, ⟨by repeat (first | (with_reducible first | exact HB.out | apply below_alloc | apply pw_below_drewN | apply below_drew1 | refine below_set ?_ GE101.out) | exact HB.out)⟩⟩
      ·rw [if_neg c23] at H
       have c23b0 : decide (x35_2 < (l0_0.length : Int)) = false := decide_eq_false c23
       clear c23
       replace H := Option.bind_eq_some_iff.mp H
       obtain ⟨t105, A900, H⟩ := H
       replace H : (some t105) = some r := H
       have A90 := Aside0.mk A900
       clear A900
       obtain rfl := Option.some.inj H
       go_wp2_with (first | ((with_reducible refine gate_callee (f := 27) rfl ?_); refine goesL_ (some 168) rfl rfl Tryd.func27 (by kernel_rfl) rfl #[] rfl (by (try simp only [List.map_toArray, List.map_cons, List.map_nil]); first | done | rfl | (simp only [List.length_drop, List.length_take]; rfl)) ?_; (with_reducible refine (wickerlaw10_Awake.calls k2  t105 _ ?side1 A90.out).mono ?_); (case side1 => exact Laid.below HG.out (by repeat (first | (with_reducible first | exact HB.out | apply below_alloc | apply pw_below_drewN | apply below_drew1 | refine below_set ?_ GE101.out) | exact HB.out))); rintro e w91 ⟨rfl, hb⟩; refine ⟨_, rfl, ?_⟩; have n0_ := Aside0.mk (blk_below (g := gb101) (o := .cells #[.slice A0_0 l0_0.length c0_0, .slice A0_1 l0_1.length c0_1, .int .i64 a0_2, .slice A0_3 l0_3.length c0_3] 25 (0, 0)) (by (with_reducible repeat (first | refine blk_drewN ?_ _ | refine blk_drew ?_ | refine blk_alloc ?_ _)); exact BK101.out) hb); have n1_ := Aside0.mk (below_step (by repeat (first | (with_reducible first | exact HB.out | apply below_alloc | apply pw_below_drewN | apply below_drew1 | refine below_set ?_ GE101.out) | exact HB.out)) hb); clear BK101; clear HB; have BK101 := n0_; have HB := n1_; clear n0_ n1_; (try clear hb); (try clear hb2); (try clear hk); (try clear hi)))
       go_ret
       exact ⟨by first | rfl | (simp [errW_none, errW_some] <;> rfl) | (simp [*, errW_none, errW_some] <;> rfl), by repeat (first | (with_reducible first | exact HB.out | apply below_alloc | apply pw_below_drewN | apply below_drew1 | refine below_set ?_ GE101.out) | exact HB.out)⟩
end Go.Proofs.YtgdcnmpcfoomiaaDoor.G
end
section
set_option linter.unusedVariables false
set_option linter.unusedSimpArgs false
namespace Go.Proofs.YtgdcnmpcfoomiaaDoor.G
open Go Go.Proofs Go.RowKit Go.Proofs.YtgdcnmpcfoomiaaDoorW.PrintWords
def stepU (l3 : List GRule) (x k : Int) : Option Int := match l3[k.toNat]? with
  | some r => if 0 ≤ k ∧ r.f0 = x ∧ 0 ≤ toI r then some (toI r) else none
  | none => none
def pathU (l3 : List GRule) : Int → List Int → Option Int
  | x, [] => some x
  | x, k :: ks => (stepU l3 x k).bind fun y => pathU l3 y ks
theorem pathU_append (l3 : List GRule) : ∀ (p q : List Int) (x : Int), pathU l3 x (p ++ q) = (pathU l3 x p).bind fun y => pathU l3 y q
  | [], q, x => rfl
  | k :: p, q, x => by
    rw [List.cons_append, pathU, pathU]
    cases stepU l3 x k with
    | none => rfl
    | some y => exact pathU_append l3 p q y
theorem idxT_has (left : Int) (l : List GRule) : ∀ (j i : Nat) (h : i < l.length), i < j → j ≤ l.length → l[i].f0 = left → (i : Int) ∈ idxT left l j := by
  intro j
  induction j with
  | zero => intro i h h1; omega
  | succ j ih =>
    intro i h h1 h2 e
    have hj : j < l.length := by omega
    rcases Nat.lt_or_ge i j with h3 | h3
    · have := ih i h h3 (by omega) e
      by_cases e2 : l[j].f0 = left
      · rw [idxT_yes hj e2]; exact List.mem_append_left _ this
      · rw [idxT_no hj e2]; exact this
    · obtain rfl : i = j := by omega
      rw [idxT_yes hj e]; simp
theorem wIn_spec (l3 : List GRule) (a x : Int) (c : List Int) (hpc : pathU l3 a c = some x) : ∀ (ks : List Int) (out : List UMet), (∀ k ∈ ks, ∃ i : Nat, ∃ h : i < l3.length, k = (i : Int) ∧ l3[i].f0 = x) → (∀ m ∈ out, m.f1.length ≤ c.length + 1) →
    ∃ ext, wIn l3 c ks out = out ++ ext ∧ (∀ m ∈ ext, pathU l3 a m.f1 = some m.f0 ∧ m.f1.length = c.length + 1) ∧ ∀ k ∈ ks, ∀ y, stepU l3 x k = some y → ∃ m ∈ out ++ ext, m.f0 = y ∧ m.f1.length ≤ c.length + 1 := by
  intro ks
  induction ks with
  | nil => intro out _ _; exact ⟨[], by rw [wIn, List.append_nil], by simp, by simp⟩
  | cons k ks ih =>
    intro out hk hl
    obtain ⟨i, hi, rfl, hx⟩ := hk k (List.mem_cons_self ..)
    have hp : wPut l3 c (i : Int) out = if 0 ≤ toI l3[i] ∧ knownB (toI l3[i]) out = false then out ++ [⟨toI l3[i], c ++ [(i : Int)]⟩] else out := by
      unfold wPut; rw [Int.toNat_natCast, List.getElem?_eq_getElem hi]
    have hs : stepU l3 x (i : Int) = if 0 ≤ toI l3[i] then some (toI l3[i]) else none := by
      unfold stepU; rw [Int.toNat_natCast, List.getElem?_eq_getElem hi]
      by_cases h0 : 0 ≤ toI l3[i]
      · rw [if_pos h0]; exact if_pos ⟨Int.natCast_nonneg _, hx, h0⟩
      · rw [if_neg h0]; exact if_neg (fun h => h0 h.2.2)
    rw [wIn]
    by_cases hc : 0 ≤ toI l3[i] ∧ knownB (toI l3[i]) out = false
    · rw [hp, if_pos hc]
      obtain ⟨ext, e1, e2, e3⟩ := ih (out ++ [⟨toI l3[i], c ++ [(i : Int)]⟩]) (fun k h => hk k (List.mem_cons_of_mem _ h)) (fun m hm => by
        rcases List.mem_append.1 hm with h | h
        · exact hl m h
        · rw [List.mem_singleton.1 h]; simp)
      refine ⟨⟨toI l3[i], c ++ [(i : Int)]⟩ :: ext, by rw [e1, List.append_assoc]; rfl, fun m hm => ?_, fun k h y hy => ?_⟩
      · rcases List.mem_cons.1 hm with rfl | h
        · refine ⟨?_, by simp⟩
          rw [pathU_append, hpc, Option.bind_some, pathU, hs, if_pos hc.1]; rfl
        · exact e2 m h
      · rcases List.mem_cons.1 h with rfl | h
        · rw [hs, if_pos hc.1] at hy
          exact ⟨_, List.mem_append_right _ (List.mem_cons_self ..), Option.some.inj hy, by simp⟩
        · obtain ⟨m, hm, h1, h2⟩ := e3 k h y hy
          refine ⟨m, ?_, h1, h2⟩
          rw [List.append_assoc] at hm; exact hm
    · rw [hp, if_neg hc]
      obtain ⟨ext, e1, e2, e3⟩ := ih out (fun k h => hk k (List.mem_cons_of_mem _ h)) hl
      refine ⟨ext, e1, e2, fun k h y hy => ?_⟩
      rcases List.mem_cons.1 h with rfl | h
      · by_cases h0 : 0 ≤ toI l3[i]
        · rw [hs, if_pos h0] at hy
          have hkn : knownB (toI l3[i]) out = true := by
            cases h9 : knownB (toI l3[i]) out with
            | true => rfl
            | false => exact absurd ⟨h0, h9⟩ hc
          obtain ⟨m, hm, hd⟩ := List.any_eq_true.1 hkn
          exact ⟨m, List.mem_append_left _ hm, (of_decide_eq_true hd).trans (Option.some.inj hy), hl m hm⟩
        · rw [hs, if_neg h0] at hy; cases hy
      · exact e3 k h y hy
theorem wIn_inv {n : Nat} {l3 : List GRule} (hfit : ∀ r ∈ l3, toI r < n) {c : List Int} : ∀ (ks : List Int) {out : List UMet}, WInv n out → c.length < out.length → WInv n (wIn l3 c ks out)
  | [], out, h, hc => h
  | k :: ks, out, h, hc => by
    obtain ⟨h1, h2⟩ := wPut_inv (k := k) hfit h hc
    exact wIn_inv hfit ks h1 (by omega)
structure BInv (l3 : List GRule) (a : Int) (i : Nat) (out : List UMet) : Prop where
  head : out[0]? = some ⟨a, []⟩
  path : ∀ m ∈ out, pathU l3 a m.f1 = some m.f0
  sort : out.Pairwise fun x y => x.f1.length ≤ y.f1.length
  bound : ∀ m0, out[i]? = some m0 → ∀ m ∈ out, m.f1.length ≤ m0.f1.length + 1
  done : ∀ (j : Nat) (m : UMet), j < i → out[j]? = some m → ∀ k y, stepU l3 m.f0 k = some y → ∃ m' ∈ out, m'.f0 = y ∧ m'.f1.length ≤ m.f1.length + 1
theorem stepU_mem {l3 : List GRule} {x k y : Int} (h : stepU l3 x k = some y) : k ∈ idxT x l3 l3.length := by
  unfold stepU at h
  split at h
  · rename_i r hr
    split at h
    · rename_i hh
      obtain ⟨hi, e⟩ := List.getElem?_eq_some_iff.1 hr
      have := idxT_has x l3 l3.length k.toNat hi hi (Nat.le_refl _) (by rw [e]; exact hh.2.1)
      rwa [Int.toNat_of_nonneg hh.1] at this
    · cases h
  · cases h
theorem wOut_spec {n : Nat} {l3 : List GRule} (hfit : ∀ r ∈ l3, toI r < n) (a : Int) : ∀ (f i : Nat) (out : List UMet), i + f = n + 1 → WInv n out → BInv l3 a i out → ∃ i', WInv n (wOut l3 f i out) ∧ BInv l3 a i' (wOut l3 f i out) ∧ (wOut l3 f i out).length ≤ i' := by
  intro f
  induction f with
  | zero => intro i out hi hw hb; exact ⟨i, hw, hb, by have := hw.len; rw [wOut]; omega⟩
  | succ f ih =>
    intro i out hi hw hb
    rw [wOut]
    cases hm : out[i]? with
    | none => exact ⟨i, hw, hb, List.getElem?_eq_none_iff.1 hm⟩
    | some m =>
      obtain ⟨hil, em⟩ := List.getElem?_eq_some_iff.1 hm
      have hcl : m.f1.length < out.length := Nat.lt_of_le_of_lt (hw.ch i m hm) hil
      obtain ⟨ext, e1, e2, e3⟩ := wIn_spec l3 a m.f0 m.f1 (hb.path m (List.mem_of_getElem? hm)) (idxT m.f0 l3 l3.length) out (fun k hk => by
        obtain ⟨t, ht, et, -, e⟩ := idxT_mem m.f0 l3 l3.length k (Nat.le_refl _) hk
        exact ⟨t, ht, et, e⟩) (hb.bound m hm)
      refine ih (i + 1) _ (by omega) (wIn_inv hfit _ hw hcl) ?_
      show BInv l3 a (i + 1) (wIn l3 m.f1 (idxT m.f0 l3 l3.length) out)
      rw [e1]
      refine ⟨?_, fun x hx => ?_, ?_, fun m0 h0 x hx => ?_, fun j x hj hx k y hy => ?_⟩
      · rw [List.getElem?_append_left (by omega)]; exact hb.head
      · rcases List.mem_append.1 hx with h | h
        · exact hb.path x h
        · exact (e2 x h).1
      · rw [List.pairwise_append]
        refine ⟨hb.sort, ?_, fun x hx y hy => by have := hb.bound m hm x hx; have := (e2 y hy).2; omega⟩
        refine List.pairwise_iff_getElem.2 fun p q hp hq hpq => ?_
        have h1 := (e2 _ (List.getElem_mem hp)).2
        have h2 := (e2 _ (List.getElem_mem hq)).2
        omega
      · have hge : m.f1.length ≤ m0.f1.length := by
          rcases Nat.lt_or_ge (i + 1) out.length with h | h
          · rw [List.getElem?_append_left h] at h0
            obtain ⟨h1, h2⟩ := List.getElem?_eq_some_iff.1 h0
            have := List.pairwise_iff_getElem.1 hb.sort i (i + 1) hil h1 (by omega)
            rwa [em, h2] at this
          · rw [List.getElem?_append_right h] at h0
            have := (e2 m0 (List.mem_of_getElem? h0)).2
            omega
        rcases List.mem_append.1 hx with h | h
        · have := hb.bound m hm x h; omega
        · have := (e2 x h).2; omega
      · rcases Nat.lt_or_ge j i with h | h
        · rw [List.getElem?_append_left (by omega)] at hx
          obtain ⟨m', hm', h1, h2⟩ := hb.done j x h hx k y hy
          exact ⟨m', List.mem_append_left _ hm', h1, h2⟩
        · obtain rfl : j = i := by omega
          rw [List.getElem?_append_left hil, hm] at hx
          obtain rfl := Option.some.inj hx
          exact e3 k (stepU_mem hy) y hy
structure UOut (l3 : List GRule) (a : Int) (out : List UMet) : Prop where
  head : out[0]? = some ⟨a, []⟩
  path : ∀ m ∈ out, pathU l3 a m.f1 = some m.f0
  best : ∀ p c, pathU l3 a p = some c → ∃ m ∈ out, m.f0 = c ∧ m.f1.length ≤ p.length
theorem BInv.closed {l3 : List GRule} {a : Int} {i : Nat} {out : List UMet} (h : BInv l3 a i out) (hl : out.length ≤ i) : ∀ (p : List Int) (m : UMet), m ∈ out → ∀ c, pathU l3 m.f0 p = some c → ∃ m' ∈ out, m'.f0 = c ∧ m'.f1.length ≤ m.f1.length + p.length
  | [], m, hm, c, hp => ⟨m, hm, Option.some.inj hp, Nat.le_refl _⟩
  | k :: p, m, hm, c, hp => by
    rw [pathU] at hp
    obtain ⟨y, hy, hp⟩ := Option.bind_eq_some_iff.1 hp
    obtain ⟨j, hj, ej⟩ := List.getElem_of_mem hm
    obtain ⟨m', hm', h1, h2⟩ := h.done j m (by omega) (by rw [List.getElem?_eq_getElem hj, ej]) k y hy
    obtain ⟨m2, hm2, h3, h4⟩ := BInv.closed h hl p m' hm' c (by rw [h1]; exact hp)
    exact ⟨m2, hm2, h3, by rw [List.length_cons]; omega⟩
end Go.Proofs.YtgdcnmpcfoomiaaDoor.G
end
section
set_option linter.unusedVariables false
set_option linter.unusedSimpArgs false
namespace Go.Proofs.YtgdcnmpcfoomiaaDoor.G
open Go Go.RowKit Go.Proofs.YtgdcnmpcfoomiaaDoorW.PrintWords Go.Proofs.YtgdcnmpcfoomiaaDoor.Pure
theorem walk_out {l0 l1 : List ByteArray} {a2 : Int} {l3 : List GRule} (hfit : ∀ r ∈ l3, toI r < l0.length) (hc : checkC nmB mkB l0 l1 a2 l3 = 0) {a : Int} (h0 : 0 ≤ a) (h1 : a < l0.length) :
    UOut l3 a (walkC l0 l1 a2 l3 a) ∧ WInv l0.length (walkC l0 l1 a2 l3 a) ∧ (walkC l0 l1 a2 l3 a).Pairwise fun x y => x.f1.length ≤ y.f1.length := by
  have hw : walkC l0 l1 a2 l3 a = wOut l3 (l0.length + 1) 0 [⟨a, []⟩] := by unfold walkC; rw [if_pos ⟨hc, h0, h1⟩]
  have hv0 : WInv l0.length [(⟨a, []⟩ : UMet)] := ⟨by simp, fun m hm => by rw [List.mem_singleton.1 hm]; exact ⟨h0, h1⟩, fun j m hj => by
    cases j with
    | zero => cases hj; simp
    | succ j => simp at hj⟩
  have hb0 : BInv l3 a 0 [(⟨a, []⟩ : UMet)] := ⟨rfl, fun m hm => by rw [List.mem_singleton.1 hm]; rfl, by simp, fun m0 h m hm => by rw [List.mem_singleton.1 hm]; simp, fun j m hj => absurd hj (by omega)⟩
  obtain ⟨i, hi1, hi2, hi3⟩ := wOut_spec hfit a (l0.length + 1) 0 [⟨a, []⟩] (by omega) hv0 hb0
  rw [hw]
  refine ⟨⟨hi2.head, hi2.path, fun p c hp => ?_⟩, hi1, hi2.sort⟩
  obtain ⟨m, hm, e1, e2⟩ := hi2.closed hi3 p ⟨a, []⟩ (List.mem_of_getElem? hi2.head) c hp
  exact ⟨m, hm, e1, by simpa using e2⟩
theorem rd76 (out : List UMet) (i : Nat) (h : i < out.length) : rd_T76 out (i : Int) = out[i] := by
  rw [rd_T76, Int.toNat_natCast, List.getD_eq_getElem?_getD, List.getElem?_eq_getElem h]; rfl
theorem from_l0 (out : List UMet) (hl : out.length ≤ 1000000) : ∀ (d i : Nat), i + d = out.length → Ev (fun k => units_From.l0 k ((out.take i).map fun m => m.f0) out (out.length : Int) (i : Int)) (out.map fun m => m.f0) := by
  intro d
  induction d with
  | zero =>
    intro i hi
    obtain rfl : i = out.length := by omega
    refine ev_nowS fun k => ?_
    rw [units_From.l0, if_neg (by omega), List.take_length]
  | succ d ih =>
    intro i hi
    have hi1 : i < out.length := by omega
    refine Ev.step (fun k => ?_) (ih (i + 1) (by omega))
    rw [units_From.l0, if_pos (by omega), if_pos (by omega), if_pos (by omega), if_pos (by rw [List.length_map, List.length_take]; omega), rd76 out i hi1, wsucc (by omega), List.take_succ_eq_append_getElem hi1, List.map_append]
    rfl
def chainU (b : Int) (l : List UMet) : List Int × Bool := match l.find? (fun m => decide (m.f0 = b)) with
  | some m => (m.f1, true)
  | none => ([], false)
theorem chainU_pos {b : Int} {m : UMet} {l : List UMet} (e : m.f0 = b) : chainU b (m :: l) = (m.f1, true) := by
  unfold chainU
  rw [List.find?_cons_of_pos (p := fun m : UMet => decide (m.f0 = b)) (decide_eq_true e)]
theorem chainU_neg {b : Int} {m : UMet} {l : List UMet} (e : ¬ m.f0 = b) : chainU b (m :: l) = chainU b l := by
  unfold chainU
  rw [List.find?_cons_of_neg (p := fun m : UMet => decide (m.f0 = b)) (by simpa using e)]
theorem chain_l0 (b : Int) (out : List UMet) (hl : out.length ≤ 1000000) (hm : ∀ m ∈ out, m.f1.length ≤ 1000000) : ∀ (d i : Nat), i + d = out.length → Ev (fun k => units_Chain.l0 k b out (out.length : Int) (i : Int)) (chainU b (out.drop i)) := by
  intro d
  induction d with
  | zero =>
    intro i hi
    refine ev_nowS fun k => ?_
    rw [units_Chain.l0, if_neg (by omega), List.drop_eq_nil_of_le (by omega)]
    rfl
  | succ d ih =>
    intro i hi
    have hi1 : i < out.length := by omega
    have hd : out.drop i = out[i] :: out.drop (i + 1) := List.drop_eq_getElem_cons hi1
    by_cases e : out[i].f0 = b
    · refine ev_nowS fun k => ?_
      rw [units_Chain.l0, if_pos (by omega), if_pos (by omega), if_pos (by omega), rd76 out i hi1, if_pos e]
      unfold slices_Clone_int_int.f
      rw [if_pos (hm _ (List.getElem_mem hi1)), Option.bind_some, hd]
      rw [chainU_pos e]
    · rw [hd, chainU_neg e]
      refine Ev.step (fun k => ?_) (ih (i + 1) (by omega))
      rw [units_Chain.l0, if_pos (by omega), if_pos (by omega), if_pos (by omega), rd76 out i hi1, if_neg e, wsucc (by omega)]
section
variable (l0 l1 : List ByteArray) (a2 : Int) (l3 : List GRule) (hg : gramOk l0 l1 a2 l3 = true)
include hg
theorem from_f (a : Int) (hl : (walkC l0 l1 a2 l3 a).length ≤ 1000000) : Ev (fun k => units_From.f k l0 l1 a2 l3 a) ((walkC l0 l1 a2 l3 a).map fun m => m.f0) := by
  unfold units_From.f units_walk.f
  rw [if_pos hg]
  exact from_l0 _ hl _ 0 (Nat.zero_add _)
theorem chain_f (a b : Int) (hl : (walkC l0 l1 a2 l3 a).length ≤ 1000000) (hm : ∀ m ∈ walkC l0 l1 a2 l3 a, m.f1.length ≤ 1000000) : Ev (fun k => units_Chain.f k l0 l1 a2 l3 a b) (chainU b (walkC l0 l1 a2 l3 a)) := by
  unfold units_Chain.f units_walk.f
  rw [if_pos hg]
  exact chain_l0 b _ hl hm _ 0 (Nat.zero_add _)
end
theorem awake10_at : wickerlaw10_Awake.f 60 = some true := by kernel_rfl
theorem awake10 : Ev wickerlaw10_Awake.f true := Ev.of wickerlaw10_Awake.mono awake10_at
theorem chain_spec {l3 : List GRule} {a b : Int} {out : List UMet} (h : UOut l3 a out) (hs : out.Pairwise fun x y => x.f1.length ≤ y.f1.length) (hb : ∃ m ∈ out, m.f0 = b) : (chainU b out).2 = true ∧ pathU l3 a (chainU b out).1 = some b ∧ ∀ m ∈ out, m.f0 = b → (chainU b out).1.length ≤ m.f1.length := by
  unfold chainU
  cases hf : out.find? (fun m => decide (m.f0 = b)) with
  | none =>
    obtain ⟨m, hm, e⟩ := hb
    exact absurd (decide_eq_true e) (by simpa using List.find?_eq_none.1 hf m hm)
  | some m =>
    have e : m.f0 = b := of_decide_eq_true (List.find?_some (p := fun m : UMet => decide (m.f0 = b)) hf)
    refine ⟨rfl, by rw [← e]; exact h.path m (List.mem_of_find?_eq_some hf), fun x hx ex => ?_⟩
    obtain ⟨-, xs, ys, hab, hno⟩ := List.find?_eq_some_iff_append.1 hf
    rw [hab] at hx hs
    rcases List.mem_append.1 hx with h1 | h1
    · have := hno x h1
      simp [ex] at this
    · rcases List.mem_cons.1 h1 with rfl | h1
      · exact Nat.le_refl _
      · exact (List.pairwise_cons.1 (List.pairwise_append.1 hs).2.1).1 x h1
end Go.Proofs.YtgdcnmpcfoomiaaDoor.G
end
section
set_option linter.unusedVariables false
set_option linter.unusedSimpArgs false
namespace Go.Proofs.YtgdcnmpcfoomiaaDoor.G
open Go Go.RowKit Go.Proofs.YtgdcnmpcfoomiaaDoorW.PrintWords Go.Proofs.YtgdcnmpcfoomiaaDoor.Pure
theorem stepU_at {l3 : List GRule} {x k y : Int} (h : stepU l3 x k = some y) : 0 ≤ k ∧ k < (l3.length : Int) ∧ (rd_T35 l3 k).f0 = x ∧ (rd_T35 l3 k).f1 = [y] ∧ 0 ≤ y := by
  unfold stepU at h
  split at h
  · rename_i r hr
    split at h
    · rename_i hh
      obtain ⟨hi, e⟩ := List.getElem?_eq_some_iff.1 hr
      have hrd : rd_T35 l3 k = r := by rw [rd_T35, List.getD_eq_getElem?_getD, hr]; rfl
      obtain rfl := Option.some.inj h
      refine ⟨hh.1, by omega, by rw [hrd]; exact hh.2.1, ?_, hh.2.2⟩
      rw [hrd]
      have h0 := hh.2.2
      unfold toI at h0 ⊢
      split
      · rename_i s hs
        rw [hs] at h0
        simp only at h0
        split
        · rename_i hneg
          rw [if_pos hneg] at h0
          exact absurd h0 (by decide)
        · exact hs
      · rename_i hns
        split at h0
        · rename_i s hs; exact absurd hs (hns s)
        · exact absurd h0 (by decide)
    · cases h
  · cases h
section
variable (l0 l1 : List ByteArray) (a2 : Int) (l3 : List GRule) (hr : l3.all ruleOk = true)
include hr
theorem lead_l2 (a b : Int) (ls : List Int) (hls : ls.length ≤ 1000000) (n a' : Int) (bs : List Int) (nb j : Int) (hcont : Ev (fun k => wickerlaw10_UnitsLead.j4 k a b ls n a' bs nb j (if a = b then decide ((ls.length : Int) > 0) else false) l0 l1 a2 l3) true) : ∀ (d i : Nat) (at_ : Int), i + d = ls.length → pathU l3 at_ (ls.drop i) = some b → Ev (fun k => wickerlaw10_UnitsLead.l2 k a b ls true at_ n a' bs nb j ls (ls.length : Int) (i : Int) l0 l1 a2 l3) true := by
  intro d
  induction d with
  | zero =>
    intro i at_ hi hp
    rw [List.drop_eq_nil_of_le (by omega), pathU] at hp
    obtain rfl := Option.some.inj hp
    refine Ev.step (fun k => ?_) hcont
    rw [wickerlaw10_UnitsLead.l2, if_neg (by omega), if_pos rfl, if_pos rfl]
    by_cases e : a = at_
    · rw [if_pos e, if_pos e]
    · rw [if_neg e, if_neg e]
  | succ d ih =>
    intro i at_ hi hp
    have hi1 : i < ls.length := by omega
    rw [List.drop_eq_getElem_cons hi1, pathU] at hp
    obtain ⟨y, hy, hp⟩ := Option.bind_eq_some_iff.1 hp
    obtain ⟨h0, h1, h2, h3, h4⟩ := stepU_at hy
    have hsy : symOk y = true := by
      have hm : rd_T35 l3 ls[i] ∈ l3 := by
        rw [rd_T35, List.getD_eq_getElem?_getD, List.getElem?_eq_getElem (by omega)]
        exact List.getElem_mem _
      have := List.all_eq_true.1 hr _ hm
      simp only [ruleOk, Bool.and_eq_true] at this
      exact List.all_eq_true.1 this.2 y (by rw [h3]; simp)
    refine Ev.step (fun k => ?_) (ih (i + 1) y (by omega) hp)
    rw [wickerlaw10_UnitsLead.l2, if_pos (by omega), if_pos (by omega), if_pos (by omega), rd_at ls i hi1, if_neg (by omega), if_neg (by omega), if_pos h0, if_pos h1, if_pos h2, h3, if_pos (by simp), if_pos (by simp), show rd [y] 0 = y from rfl, isTerm_f, Option.bind_some, if_neg (by simp; omega), place_f y hsy, Option.bind_some, if_neg (by omega), wsucc (by omega)]
end
section
variable (l0 l1 : List ByteArray) (a2 : Int) (l3 : List GRule) (hg : gramOk l0 l1 a2 l3 = true)
include hg
def WOk (l0 l1 : List ByteArray) (a2 : Int) (l3 : List GRule) (a : Int) : Prop := UOut l3 a (walkC l0 l1 a2 l3 a) ∧ (walkC l0 l1 a2 l3 a).Pairwise (fun x y => x.f1.length ≤ y.f1.length) ∧ (walkC l0 l1 a2 l3 a).length ≤ 1000 ∧ ∀ m ∈ walkC l0 l1 a2 l3 a, m.f1.length ≤ 1000
theorem lead_l3 (a b : Int) (ha : WOk l0 l1 a2 l3 a) (hb : WOk l0 l1 a2 l3 b) (ls : List Int) (hls : ls.length ≤ 1000) (hp : pathU l3 a ls = some b) (n a' : Int) (bs : List Int) (nb j : Int) (hcont : Ev (fun k => wickerlaw10_UnitsLead.l1 k a n a' bs nb (wrap64 (j + 1)) l0 l1 a2 l3) true) (cs : List Int) (hcl : cs.length ≤ 1000) (hcs : ∀ c ∈ cs, ∃ m ∈ walkC l0 l1 a2 l3 b, m.f0 = c) : ∀ (d i : Nat), i + d = cs.length → Ev (fun k => wickerlaw10_UnitsLead.l3 k a b ls n a' bs nb j cs (cs.length : Int) (i : Int) l0 l1 a2 l3) true := by
  intro d
  induction d with
  | zero =>
    intro i hi
    refine Ev.step (fun k => ?_) hcont
    rw [wickerlaw10_UnitsLead.l3, if_neg (by omega)]
  | succ d ih =>
    intro i hi
    have hi1 : i < cs.length := by omega
    obtain ⟨mb, hmb, emb⟩ := hcs cs[i] (List.getElem_mem hi1)
    obtain ⟨s1, s2, s3⟩ := chain_spec hb.1 hb.2.1 ⟨mb, hmb, emb⟩
    have hpp : pathU l3 a (ls ++ (chainU cs[i] (walkC l0 l1 a2 l3 b)).1) = some cs[i] := by rw [pathU_append, hp]; exact s2
    obtain ⟨ma, hma, ema, hle⟩ := ha.1.best _ _ hpp
    obtain ⟨t1, t2, t3⟩ := chain_spec ha.1 ha.2.1 ⟨ma, hma, ema⟩
    have hlb := s3 mb hmb emb
    have hlb2 := hb.2.2.2 mb hmb
    have hla := t3 ma hma ema
    rw [List.length_append] at hle
    refine Ev.step (f := fun k => (units_Chain.f k l0 l1 a2 l3 b cs[i]).bind fun bt127 => (units_Chain.f k l0 l1 a2 l3 a cs[i]).bind fun bt131 => if bt127.2 = true then (if bt131.2 = true then (if (bt131.1.length : Int) > (wrap64 ((ls.length : Int) + (bt127.1.length : Int))) then (some false) else (wickerlaw10_UnitsLead.l3 k a b ls n a' bs nb j cs (cs.length : Int) (wrap64 ((i : Int) + 1)) l0 l1 a2 l3)) else (some false)) else (some false)) (fun k => ?_) (Ev.bind (chain_f l0 l1 a2 l3 hg b cs[i] (by have := hb.2.2.1; omega) (fun m hm => by have := hb.2.2.2 m hm; omega)) (Ev.bind (chain_f l0 l1 a2 l3 hg a cs[i] (by have := ha.2.2.1; omega) (fun m hm => by have := ha.2.2.2 m hm; omega)) (Ev.pos s1 (Ev.pos t1 (Ev.neg ?_ ?_)))))
    · rw [wickerlaw10_UnitsLead.l3, if_pos (by omega), if_pos (by omega), if_pos (by omega), rd_at cs i hi1]
    · rw [Pure.w64 (by omega) (by omega)]; omega
    · rw [wsucc (by omega)]; exact ih (i + 1) (by omega)
end
section
variable (l0 l1 : List ByteArray) (a2 : Int) (l3 : List GRule) (hg : gramOk l0 l1 a2 l3 = true) (hr : l3.all ruleOk = true)
include hg hr
theorem lead_l1 (a : Int) (ha : WOk l0 l1 a2 l3 a) (hall : ∀ m ∈ walkC l0 l1 a2 l3 a, WOk l0 l1 a2 l3 m.f0) (n a' : Int) (hcont : Ev (fun k => wickerlaw10_UnitsLead.l0 k n (wrap64 (a' + 1)) l0 l1 a2 l3) true) : ∀ (d j : Nat), j + d = ((walkC l0 l1 a2 l3 a).map fun m => m.f0).length → Ev (fun k => wickerlaw10_UnitsLead.l1 k a n a' ((walkC l0 l1 a2 l3 a).map fun m => m.f0) (((walkC l0 l1 a2 l3 a).map fun m => m.f0).length : Int) (j : Int) l0 l1 a2 l3) true := by
  intro d
  induction d with
  | zero =>
    intro j hj
    refine Ev.step (fun k => ?_) hcont
    rw [wickerlaw10_UnitsLead.l1, if_neg (by omega)]
  | succ d ih =>
    intro j hj
    have hj1 : j < ((walkC l0 l1 a2 l3 a).map fun m => m.f0).length := by omega
    have hjo : j < (walkC l0 l1 a2 l3 a).length := by rwa [List.length_map] at hj1
    have hlen := ha.2.2.1
    obtain ⟨mb, hmb, emb⟩ := List.mem_map.1 (List.getElem_mem hj1)
    have hbk := hall mb hmb
    generalize hbs : ((walkC l0 l1 a2 l3 a).map fun m => m.f0) = bs at *
    have hbl : bs.length ≤ 1000 := by rw [← hbs, List.length_map]; exact hlen
    rw [emb] at hbk
    obtain ⟨t1, t2, t3⟩ := chain_spec ha.1 ha.2.1 ⟨mb, hmb, emb⟩
    have hls := Nat.le_trans (t3 mb hmb emb) (ha.2.2.2 mb hmb)
    have hflag : (if a = bs[j] then decide (((chainU bs[j] (walkC l0 l1 a2 l3 a)).1.length : Int) > 0) else false) = false := by
      by_cases e : a = bs[j]
      · rw [if_pos e]
        have := t3 ⟨a, []⟩ (List.mem_of_getElem? ha.1.head) e
        simp only [List.length_nil] at this
        exact decide_eq_false (by omega)
      · rw [if_neg e]
    refine Ev.step (f := fun k => (units_Chain.f k l0 l1 a2 l3 a bs[j]).bind fun bt110 => wickerlaw10_UnitsLead.l2 k a bs[j] bt110.1 bt110.2 a n a' bs (bs.length : Int) (j : Int) bt110.1 (bt110.1.length : Int) 0 l0 l1 a2 l3) (fun k => ?_) (Ev.bind (chain_f l0 l1 a2 l3 hg a bs[j] (by omega) (fun m hm => by have := ha.2.2.2 m hm; omega)) ?_)
    · rw [wickerlaw10_UnitsLead.l1, if_pos (by omega), if_pos (by omega), if_pos (by omega), rd_at bs j hj1]
    · rw [t1]
      refine lead_l2 l0 l1 a2 l3 hr a bs[j] _ (by omega) n a' bs _ j ?_ _ 0 a (Nat.zero_add _) (by rw [List.drop_zero]; exact t2)
      rw [hflag]
      refine Ev.step (f := fun k => (units_From.f k l0 l1 a2 l3 bs[j]).bind fun t123 => wickerlaw10_UnitsLead.l3 k a bs[j] (chainU bs[j] (walkC l0 l1 a2 l3 a)).1 n a' bs (bs.length : Int) (j : Int) t123 (t123.length : Int) 0 l0 l1 a2 l3) (fun k => ?_) (Ev.bind (from_f l0 l1 a2 l3 hg bs[j] (by have := hbk.2.2.1; omega)) (lead_l3 l0 l1 a2 l3 hg a bs[j] ha hbk _ hls t2 n a' bs _ j (by rw [wsucc (by omega)]; exact ih (j + 1) (by omega)) _ (by rw [List.length_map]; exact hbk.2.2.1) (fun c hc => by obtain ⟨m, hm, e⟩ := List.mem_map.1 hc; exact ⟨m, hm, e⟩) _ 0 (Nat.zero_add _)))
      rw [wickerlaw10_UnitsLead.j4, if_neg (by decide)]
end
theorem units_lead (l0 l1 : List ByteArray) (a2 : Int) (l3 : List GRule) (h : GIn l0 l1 a2 l3) : ∃ k, wickerlaw10_UnitsLead.f k l0 l1 a2 l3 = some true := by
  have hj : Ev (fun k => wickerlaw10_UnitsLead.j0 k true l0 l1 a2 l3) true := by
    refine Ev.step (f := fun k => (wickerlaw10_Awake.f k).bind fun t => some t) (fun k => ?_) (Ev.bind awake10 (Ev.now _))
    rw [wickerlaw10_UnitsLead.j0, if_pos rfl]
  refine Ev.rounds (g := fun k => wickerlaw10_UnitsLead.f k l0 l1 a2 l3) (Ev.bind (small_f l0 l1 a2 l3 h) ?_)
  cases hs : smallB l0 l1 l3 with
  | false => exact Ev.neg (by simp) hj
  | true =>
    obtain ⟨hg, hn, _⟩ := small_ok h hs
    have hr : l3.all ruleOk = true := by
      have := hg
      simp only [gramOk, Bool.and_eq_true] at this
      exact this.2
    refine Ev.pos rfl ?_
    unfold wickerlaw02_May.f
    rw [if_pos hg]
    refine Ev.got rfl ?_
    by_cases hc : checkC nmB mkB l0 l1 a2 l3 = 0
    · rw [hc]
      refine Ev.pos (by rfl) ?_
      by_cases h8 : (l0.length : Int) > 8
      · rw [decide_eq_true h8]; exact hj
      · rw [decide_eq_false h8]
        have hfit := fun r hr => toI_lt hc r hr
        have hok : ∀ a : Int, 0 ≤ a → a < l0.length → WOk l0 l1 a2 l3 a := fun a h0 h1 => by
          obtain ⟨o1, o2, o3⟩ := walk_out hfit hc h0 h1
          have := o2.len
          refine ⟨o1, o3, by omega, fun m hm => ?_⟩
          obtain ⟨j, hj, e⟩ := List.getElem_of_mem hm
          have := o2.ch j m (by rw [List.getElem?_eq_getElem hj, e])
          omega
        have hl : ∀ (d i : Nat), i + d = l0.length → Ev (fun k => wickerlaw10_UnitsLead.l0 k (l0.length : Int) (i : Int) l0 l1 a2 l3) true := by
          intro d
          induction d with
          | zero =>
            intro i hi
            refine Ev.step (f := fun k => (wickerlaw10_Awake.f k).bind fun t => some t) (fun k => ?_) (Ev.bind awake10 (Ev.now _))
            rw [wickerlaw10_UnitsLead.l0, if_neg (by omega)]
          | succ d ih =>
            intro i hi
            have ha := hok i (by omega) (by omega)
            obtain ⟨o1, o2, o3⟩ := walk_out hfit hc (a := (i : Int)) (by omega) (by omega)
            refine Ev.step (f := fun k => (units_From.f k l0 l1 a2 l3 (i : Int)).bind fun t106 => wickerlaw10_UnitsLead.l1 k (i : Int) (l0.length : Int) (i : Int) t106 (t106.length : Int) 0 l0 l1 a2 l3) (fun k => ?_) (Ev.bind (from_f l0 l1 a2 l3 hg i (by have := ha.2.2.1; omega)) (lead_l1 l0 l1 a2 l3 hg hr i ha (fun m hm => hok _ (o2.lt m hm).1 (o2.lt m hm).2) _ i (by rw [wsucc (by omega)]; exact ih (i + 1) (by omega)) _ 0 (Nat.zero_add _)))
            rw [wickerlaw10_UnitsLead.l0, if_pos (by omega)]
        refine Ev.step (fun k => ?_) (hl l0.length 0 (Nat.zero_add _))
        rw [wickerlaw10_UnitsLead.j0, if_neg (by decide)]; rfl
    · exact Ev.neg (by simp [hc]) hj
end Go.Proofs.YtgdcnmpcfoomiaaDoor.G
namespace Go.Proofs.YtgdcnmpcfoomiaaDoor.Pure
open Go.Proofs.YtgdcnmpcfoomiaaDoor.G
theorem UnitsLead (l0 l1 : List ByteArray) (a2 : Int) (l3 : List S35) (h : GIn l0 l1 a2 l3) : ∃ k, wickerlaw10_UnitsLead.f k l0 l1 a2 l3 = some true := units_lead l0 l1 a2 l3 h
end Go.Proofs.YtgdcnmpcfoomiaaDoor.Pure
end
namespace Go.Proofs.YtgdcnmpcfoomiaaDoor.unitsLead
open Go Go.Proofs.YtgdcnmpcfoomiaaDoorOpen Go.ChangeShapes Go.WideShapes Go.ChangeAt Go.RowKit
open Go.ChangeMaps (open_string shut_string)
set_option linter.unusedVariables false
theorem own : ownKnob Tryd.prog.godebug = none := by kernel_rfl
theorem laidOut : laidOutB Tryd.prog = true := by kernel_rfl
def laid : List (String × DataW Unit) := [("math/bits.deBruijn32tab", Rows.laid_math_bits_deBruijn32tab), ("math/bits.deBruijn64tab", Rows.laid_math_bits_deBruijn64tab), ("internal/strconv.uint64pow10", Rows.laid_internal_strconv_uint64pow10)]
theorem laid_in : (("internal/strconv.uint64pow10", Lib.tabData .u64 Lib.pow10Tab) : String × DataW Unit) ∈ laid := by
  rw [show (Lib.tabData .u64 Lib.pow10Tab : DataW Unit) = Rows.laid_internal_strconv_uint64pow10 by kernel_rfl]
  exact List.Mem.tail _ (List.Mem.tail _ (List.Mem.head _))
theorem laid_met (os : Os) (args : Array Value) : laidMetH Tryd.prog laid ((World.laidAll Tryd.prog os laid).forCall (fun _ _ => 0) ⟨#[], args, []⟩).memory := by
  rw [Go.MakeChecks.laidMetH_plain _ _ _ (by kernel_rfl)]
  exact laidMet_laidAll args (by kernel_rfl) (by kernel_rfl)
set_option maxRecDepth 100000 in
theorem lifted (os : Os) (started : os.Started) (H : Type) (enc : TypeId × Value → H) :
    ReturnsInHanded {} Tryd.checked os 7 .any (fun w args => (Rows.unitsLeadSpec.pre enc Tryd.prog Tryd.f7 [] false w args ∧ laidMetH Tryd.prog laid w) ∧ sizedMet enc Tryd.prog Tryd.f7 (OpenSpec.ofChange Rows.unitsLeadSpec) false w args) (Rows.unitsLeadSpec.post enc Tryd.prog Tryd.f7 false true false false) := by
  refine returnsInHanded_of_change_and (C := Tryd.checked) (X := fun w _ => laidMetH Tryd.prog laid w) (fun _ _ _ hh h => h.of_heap hh) own started (by kernel_rfl) Tryd.func7
    (ChangeSpec.witness_at (enc := enc) (C := Tryd.checked) (os := os) (X := fun w _ => laidMetH Tryd.prog laid w) false (World.laidAll Tryd.prog os laid) #[.agg #[.slice none 0 0, .slice none 0 0, .int .i64 0, .slice none 0 0]] 8 (World.laidAll_os _ _ _) (by kernel_rfl) (by kernel_rfl) (by kernel_rfl) (by kernel_rfl) (by kernel_rfl) (laid_met os _)) ?_
  intro W base args ds gs before hval0 hW hcnd hsz0 hL _
  have hsz : (DataW.weightsEach Tryd.prog (Tryd.f7.params.toList ++ Rows.unitsLeadSpec.plain.varTypes Tryd.prog) (ds ++ gs)).all (· ≤ reachBytes) = true := hsz0
  have hval : ∀ (j : Nat) t v, Tryd.f7.params[j]? = some t → args[j]? = some v → Value.okWide Tryd.prog W .any base t v := hval0
  have hW' := hW
  obtain ⟨p, q, hA0, hV, rfl, hfz, hnd⟩ := hW
  have hA : DataW.TrodAll enc Tryd.prog W 0 (fun _ => true) true Tryd.f7.params.toList args.toList ds p := hA0
  rw [Tryd.params7] at hA hval hsz
  obtain ⟨v0, vs0, d0, ds0, p0, q0, hargs, rfl, rfl, h0, r0⟩ := trodAll_cons hA
  obtain ⟨rfl, rfl, rfl⟩ := trodAll_nil r0
  obtain rfl : args = #[v0] := by cases args; simp_all
  obtain ⟨rfl, rfl⟩ := trodVars_none hV
  have k0 := h0
  have lt0 : ∀ x ∈ p0, x.block < W.heap.size := by obtain ⟨m, hm⟩ := k0; exact DataW.trod_lt m _ _ _ hm
  obtain ⟨A0a, c0a, l0a, A0b, c0b, l0b, i0, A0d, c0d, l0d, rfl, ⟨hr0a, hc0a⟩, ⟨hr0b, hc0b⟩, ⟨hr0d, hc0d⟩, gin0⟩ := Go.Proofs.YtgdcnmpcfoomiaaDoor.G.open_gram (hval 0 25 v0 rfl rfl) h0 (Go.Proofs.YtgdcnmpcfoomiaaDoorOpen.weigh hsz (j := 0) rfl rfl)
  clear hA0 hval0 hsz0 hsz
  obtain ⟨k, hk⟩ := Pure.UnitsLead l0a l0b i0 l0d gin0
  refine (Go.Proofs.YtgdcnmpcfoomiaaDoor.G.wickerlaw10_UnitsLead.calls k _ _ l0a _ _ l0b i0 _ _ l0d true W (laid_of (by kernel_rfl) laid_in hL) hr0a hc0a hr0b hc0b hr0d hc0d hk).mono fun e W' hpost => ?_
  obtain ⟨he, bel⟩ : e = .returned (.bool true) ∧ Below W.heap.size W W' := hpost
  subst he
  exact ⟨_, rfl, _, _, _, [], _, [], hW', trodAll_mk1 (shut_bool Tryd.underlying4 _), (trodAll_cons_mk (Below.trod laidOut (by kernel_rfl) (of_decide_eq_true (by kernel_rfl)) k0 bel lt0) trodAll_mk0), rfl, bel.frame _, fun h => by cases h⟩
theorem over : Rows.UnitsLeadSaid :=
  OpenClaim.holds_of_wide 7 Tryd.f7 rfl rfl rfl rfl rfl rfl rfl ⟨rfl, rfl, rfl, rfl, rfl⟩ rfl rfl rfl rfl rfl (by kernel_rfl) Tryd.func7 (by kernel_rfl)
    (of_decide_eq_true (by kernel_rfl)) (by unfold Func.isWrapper; first | (rw [if_pos (by decide +kernel)]; kernel_rfl) | (rw [if_neg (by decide +kernel)]; exact ⟨rfl, rfl⟩))
    (fun os started H enc _ => lifted os started H enc)
theorem carded : Rows.UnitsLeadCardSaid :=
  Claim7.holds_tied_plain_at .later [] [.data, .data, .data] true (true, "dbcb39fb42b103b2db4ac0b36b29ec61e8607bd03254c021b0261db2afc69120") false
    over (fun _ h => by cases h) (by kernel_rfl) (fun _ h => by cases h) unitsLead_row_tie rfl ⟨rfl, rfl⟩ (by kernel_rfl) rfl
    (fun f fn hf hfn => by
      obtain rfl : f = 7 := Option.some.inj ((show Tryd.prog.funcNamed Rows.unitsLeadRow.func = some 7 by kernel_rfl).symm.trans hf) |>.symm
      obtain rfl : fn = Tryd.f7 := (Option.some.inj (Tryd.func7.symm.trans hfn)).symm
      exact ⟨by kernel_rfl, fun j t ht => by
        rw [Tryd.params7] at ht
        rcases j with _ | j
        · obtain rfl : t = 25 := by simpa using ht.symm
          exact (show Tryd.prog.wantsStandIn 25 = false by kernel_rfl)
        simp at ht⟩)
    (by kernel_rfl)
#print axioms carded
end Go.Proofs.YtgdcnmpcfoomiaaDoor.unitsLead
namespace Go.Proofs.YtgdcnmpcfoomiaaDoor
theorem unitsLead_holds : Rows.UnitsLeadCardSaid := unitsLead.carded
end Go.Proofs.YtgdcnmpcfoomiaaDoor
