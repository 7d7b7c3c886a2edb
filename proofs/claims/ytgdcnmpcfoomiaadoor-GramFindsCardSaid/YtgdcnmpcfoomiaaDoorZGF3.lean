/- GramFinds: of every two grammars, number and rule the law's answer is true (condition: the listed tables of the library are as the program's text lays them): part 4 of 4 of its proof, packed by a program of this session out of the texts GRef021, RefC, GRef022, GramF, GramG, LGramFinds. -/
import Derived.Test.YtgdcnmpcfoomiaaDoorZGF2
import Derived.Deep.QuietTactic
import Derived.BigQuiet
import Derived.Deep.RegionHeld3
import Derived.Test.YtgdcnmpcfoomiaaDoorRows
import Derived.Test.YtgdcnmpcfoomiaaDoorTie
import Derived.Test.YtgdcnmpcfoomiaaDoorCards
import Derived.WalkKit
import Derived.ProofKit
import Derived.OpenShut
import Derived.ShutString
import Derived.ChangeOld
import Derived.ChangeVars
import Derived.ChangeSame
import Derived.JoinedOf
import Derived.Below
import Derived.SizedLaws
import Derived.Handed
import Derived.LaidLaws
import Derived.LaidHandle
import Derived.Lay
import Derived.MakeChecks
import Derived.Stop.Joined
import Derived.SevenTiedAt
section
namespace Go.Proofs.YtgdcnmpcfoomiaaDoor.G
open Go.RowKit Go.Proofs.YtgdcnmpcfoomiaaDoorW.PrintWords Go.Proofs.YtgdcnmpcfoomiaaDoorW.PrintLast Go.Proofs.YtgdcnmpcfoomiaaDoorW.PrintMore
attribute [local go_sem] max2_int min2_int max_two min_two max_three min_three max_four min_four
attribute [local go_sem] Go.Proofs.YtgdcnmpcfoomiaaDoorOwn.isSome_setCell
set_option linter.unusedVariables false
set_option linter.unusedSimpArgs false
mutual
def wickerref02_Same.j0 : Nat → Bool → Int → List Int → Int → List Int → Option (Bool)
 | 0, _, _, _, _, _ => none
 | k + 1, x19, x102000, x102001, x103000, x103001 => if x19 = true then (some false) else (wickerref02_Same.l0 k 0 x102000 x102001 x103000 x103001)
def wickerref02_Same.l0 : Nat → Int → Int → List Int → Int → List Int → Option (Bool)
 | 0, _, _, _, _, _ => none
 | k + 1, x5, x102000, x102001, x103000, x103001 => if x5 < (x102001.length : Int) then (if 0 ≤ x5 then (if x5 < (x103001.length : Int) then (if (rd x102001 x5) = (rd x103001 x5) then (wickerref02_Same.l0 k (wrap64 (x5 + 1)) x102000 x102001 x103000 x103001) else (some false)) else (none)) else (none)) else (some true)
end
def wickerref02_Same.f (k : Nat) (a0_0 : Int) (l0_1 : List Int) (a1_0 : Int) (l1_1 : List Int) : Option (Bool) := if a0_0 = a1_0 then (wickerref02_Same.j0 k ((l0_1.length : Int) != (l1_1.length : Int)) a0_0 l0_1 a1_0 l1_1) else (wickerref02_Same.j0 k true a0_0 l0_1 a1_0 l1_1)
set_option maxHeartbeats 8000000 in
set_option maxRecDepth 100000 in
theorem wickerref02_Same.calls (k : Nat) (a0_0 : Int) (A0_1 : Option Addr) (c0_1 : Nat) (l0_1 : List Int) (a1_0 : Int) (A1_1 : Option Addr) (c1_1 : Nat) (l1_1 : List Int) (r : Bool) (w : World) (hr0_1 : Kd.C (Kd.int .i64) w A0_1 l0_1.length l0_1) (hc0_1 : l0_1.length ≤ c0_1) (hr1_1 : Kd.C (Kd.int .i64) w A1_1 l1_1.length l1_1) (hc1_1 : l1_1.length ≤ c1_1) (h : wickerref02_Same.f k a0_0 l0_1 a1_0 l1_1 = some r) :
  Calls Tryd.prog 54 #[.agg #[.int .i64 a0_0, .slice A0_1 l0_1.length c0_1], .agg #[.int .i64 a1_0, .slice A1_1 l1_1.length c1_1]] w fun e w' => e = .returned (.bool r) ∧ Below w.heap.size w w' := by
 have hu38 := Tryd.underlying38
 have HR0_1 := Aside0.mk hr0_1
 have HC0_1 := Aside0.mk hc0_1
 clear hr0_1 hc0_1
 have HR1_1 := Aside0.mk hr1_1
 have HC1_1 := Aside0.mk hc1_1
 clear hr1_1 hc1_1
 have HB := Aside0.mk (Below.refl w.heap.size w)
 have H : (if a0_0 = a1_0 then (wickerref02_Same.j0 k ((l0_1.length : Int) != (l1_1.length : Int)) a0_0 l0_1 a1_0 l1_1) else (wickerref02_Same.j0 k true a0_0 l0_1 a1_0 l1_1)) = some r := h
 clear h
 have HC3 := Aside0.mk H
 clear H
 go_enter Tryd.func54, Tryd.ntmps54
 go_upto_region 1 with (first | ((with_reducible refine gate_dst (N := 2) rfl ?_); (try (refine gate_guard (by rfl) ?_; dsimp only)); refine box_event ?hg (N := 2) ?hd (cs := #[.int .i64 a0_0, .slice A0_1 l0_1.length c0_1]) (t := 38) ?hr ?_; (case hd => rfl); (case hg => rfl); (case hr => first | (go_simp; done) | (go_simp; rfl)); intro gb101 hg w4 hbox hb; have n0_ := Aside0.mk (below_step (by repeat (first | (with_reducible first | exact HB.out | apply below_alloc | apply pw_below_drewN | apply below_drew1) | exact HB.out)) hb); have n1_ := Aside0.mk (hbox); have n2_ := Aside0.mk ((by rw [hg]; exact (below_size (by repeat (first | (with_reducible first | exact HB.out | apply below_alloc | apply pw_below_drewN | apply below_drew1) | exact HB.out))) : w.heap.size ≤ gb101)); have n3_ := Aside0.mk ((by rw [hg]; exact (below_size (by repeat (first | (with_reducible first | exact HB.out | apply below_alloc | apply pw_below_drewN | apply below_drew1) | exact HB.out))) : w.heap.size ≤ gb101)); clear HB; have HB := n0_; have BK101 := n1_; have GW101 := n2_; have GE101 := n3_; clear n0_ n1_ n2_ n3_; clear hb hbox hg) | ((with_reducible refine gate_dst (N := 3) rfl ?_); (try (refine gate_guard (by rfl) ?_; dsimp only)); refine box_event ?hg (N := 3) ?hd (cs := #[.int .i64 a1_0, .slice A1_1 l1_1.length c1_1]) (t := 38) ?hr ?_; (case hd => rfl); (case hg => rfl); (case hr => first | (go_simp; done) | (go_simp; rfl)); intro gb102 hg w5 hbox hb; have n0_ := Aside0.mk (blk_below (g := gb101) (o := .cells #[.int .i64 a0_0, .slice A0_1 l0_1.length c0_1] 38 (0, 0)) (by (with_reducible repeat (first | refine blk_drewN ?_ _ | refine blk_drew ?_ | refine blk_alloc ?_ _)); exact BK101.out) hb); have n1_ := Aside0.mk (below_step (by repeat (first | (with_reducible first | exact HB.out | apply below_alloc | apply pw_below_drewN | apply below_drew1 | refine below_set ?_ GE101.out) | exact HB.out)) hb); have n2_ := Aside0.mk (hbox); have n3_ := Aside0.mk ((by rw [hg]; exact (below_size (by repeat (first | (with_reducible first | exact HB.out | apply below_alloc | apply pw_below_drewN | apply below_drew1 | refine below_set ?_ GE101.out) | exact HB.out))) : w.heap.size ≤ gb102)); have n4_ := Aside0.mk ((by rw [hg]; exact (below_size (by repeat (first | (with_reducible first | exact HB.out | apply below_alloc | apply pw_below_drewN | apply below_drew1 | refine below_set ?_ GE101.out) | exact HB.out))) : w.heap.size ≤ gb102)); have n5_ := Aside0.mk ((by rw [hg]; exact Nat.ne_of_lt (blk_lt (g := gb101) (o := .cells #[.int .i64 a0_0, .slice A0_1 l0_1.length c0_1] 38 (0, 0)) (by (with_reducible repeat (first | refine blk_drewN ?_ _ | refine blk_drew ?_ | refine blk_alloc ?_ _)); exact BK101.out)) : gb101 ≠ gb102)); have n6_ := Aside0.mk ((by rw [hg]; exact Nat.ne_of_gt (blk_lt (g := gb101) (o := .cells #[.int .i64 a0_0, .slice A0_1 l0_1.length c0_1] 38 (0, 0)) (by (with_reducible repeat (first | refine blk_drewN ?_ _ | refine blk_drew ?_ | refine blk_alloc ?_ _)); exact BK101.out)) : gb102 ≠ gb101)); clear BK101; clear HB; have BK101 := n0_; have HB := n1_; have BK102 := n2_; have GW102 := n3_; have GE102 := n4_; have NB101_102 := n5_; have NB102_101 := n6_; clear n0_ n1_ n2_ n3_ n4_ n5_ n6_; clear hb hbox hg))
 repeat (go_quiet (first | ((with_reducible refine gate_dst (N := 2) rfl ?_); (try (refine gate_guard (by rfl) ?_; dsimp only)); refine box_event ?hg (N := 2) ?hd (cs := #[.int .i64 a0_0, .slice A0_1 l0_1.length c0_1]) (t := 38) ?hr ?_; (case hd => rfl); (case hg => rfl); (case hr => first | (go_simp; done) | (go_simp; rfl)); intro gb101 hg w4 hbox hb; have n0_ := Aside0.mk (below_step (by repeat (first | (with_reducible first | exact HB.out | apply below_alloc | apply pw_below_drewN | apply below_drew1) | exact HB.out)) hb); have n1_ := Aside0.mk (hbox); have n2_ := Aside0.mk ((by rw [hg]; exact (below_size (by repeat (first | (with_reducible first | exact HB.out | apply below_alloc | apply pw_below_drewN | apply below_drew1) | exact HB.out))) : w.heap.size ≤ gb101)); have n3_ := Aside0.mk ((by rw [hg]; exact (below_size (by repeat (first | (with_reducible first | exact HB.out | apply below_alloc | apply pw_below_drewN | apply below_drew1) | exact HB.out))) : w.heap.size ≤ gb101)); clear HB; have HB := n0_; have BK101 := n1_; have GW101 := n2_; have GE101 := n3_; clear n0_ n1_ n2_ n3_; clear hb hbox hg) | ((with_reducible refine gate_dst (N := 3) rfl ?_); (try (refine gate_guard (by rfl) ?_; dsimp only)); refine box_event ?hg (N := 3) ?hd (cs := #[.int .i64 a1_0, .slice A1_1 l1_1.length c1_1]) (t := 38) ?hr ?_; (case hd => rfl); (case hg => rfl); (case hr => first | (go_simp; done) | (go_simp; rfl)); intro gb102 hg w5 hbox hb; have n0_ := Aside0.mk (blk_below (g := gb101) (o := .cells #[.int .i64 a0_0, .slice A0_1 l0_1.length c0_1] 38 (0, 0)) (by (with_reducible repeat (first | refine blk_drewN ?_ _ | refine blk_drew ?_ | refine blk_alloc ?_ _)); exact BK101.out) hb); have n1_ := Aside0.mk (below_step (by repeat (first | (with_reducible first | exact HB.out | apply below_alloc | apply pw_below_drewN | apply below_drew1 | refine below_set ?_ GE101.out) | exact HB.out)) hb); have n2_ := Aside0.mk (hbox); have n3_ := Aside0.mk ((by rw [hg]; exact (below_size (by repeat (first | (with_reducible first | exact HB.out | apply below_alloc | apply pw_below_drewN | apply below_drew1 | refine below_set ?_ GE101.out) | exact HB.out))) : w.heap.size ≤ gb102)); have n4_ := Aside0.mk ((by rw [hg]; exact (below_size (by repeat (first | (with_reducible first | exact HB.out | apply below_alloc | apply pw_below_drewN | apply below_drew1 | refine below_set ?_ GE101.out) | exact HB.out))) : w.heap.size ≤ gb102)); have n5_ := Aside0.mk ((by rw [hg]; exact Nat.ne_of_lt (blk_lt (g := gb101) (o := .cells #[.int .i64 a0_0, .slice A0_1 l0_1.length c0_1] 38 (0, 0)) (by (with_reducible repeat (first | refine blk_drewN ?_ _ | refine blk_drew ?_ | refine blk_alloc ?_ _)); exact BK101.out)) : gb101 ≠ gb102)); have n6_ := Aside0.mk ((by rw [hg]; exact Nat.ne_of_gt (blk_lt (g := gb101) (o := .cells #[.int .i64 a0_0, .slice A0_1 l0_1.length c0_1] 38 (0, 0)) (by (with_reducible repeat (first | refine blk_drewN ?_ _ | refine blk_drew ?_ | refine blk_alloc ?_ _)); exact BK101.out)) : gb102 ≠ gb101)); clear BK101; clear HB; have BK101 := n0_; have HB := n1_; have BK102 := n2_; have GW102 := n3_; have GE102 := n4_; have NB101_102 := n5_; have NB102_101 := n6_; clear n0_ n1_ n2_ n3_ n4_ n5_ n6_; clear hb hbox hg)); go_upto_region 1 with (first | ((with_reducible refine gate_dst (N := 2) rfl ?_); (try (refine gate_guard (by rfl) ?_; dsimp only)); refine box_event ?hg (N := 2) ?hd (cs := #[.int .i64 a0_0, .slice A0_1 l0_1.length c0_1]) (t := 38) ?hr ?_; (case hd => rfl); (case hg => rfl); (case hr => first | (go_simp; done) | (go_simp; rfl)); intro gb101 hg w4 hbox hb; have n0_ := Aside0.mk (below_step (by repeat (first | (with_reducible first | exact HB.out | apply below_alloc | apply pw_below_drewN | apply below_drew1) | exact HB.out)) hb); have n1_ := Aside0.mk (hbox); have n2_ := Aside0.mk ((by rw [hg]; exact (below_size (by repeat (first | (with_reducible first | exact HB.out | apply below_alloc | apply pw_below_drewN | apply below_drew1) | exact HB.out))) : w.heap.size ≤ gb101)); have n3_ := Aside0.mk ((by rw [hg]; exact (below_size (by repeat (first | (with_reducible first | exact HB.out | apply below_alloc | apply pw_below_drewN | apply below_drew1) | exact HB.out))) : w.heap.size ≤ gb101)); clear HB; have HB := n0_; have BK101 := n1_; have GW101 := n2_; have GE101 := n3_; clear n0_ n1_ n2_ n3_; clear hb hbox hg) | ((with_reducible refine gate_dst (N := 3) rfl ?_); (try (refine gate_guard (by rfl) ?_; dsimp only)); refine box_event ?hg (N := 3) ?hd (cs := #[.int .i64 a1_0, .slice A1_1 l1_1.length c1_1]) (t := 38) ?hr ?_; (case hd => rfl); (case hg => rfl); (case hr => first | (go_simp; done) | (go_simp; rfl)); intro gb102 hg w5 hbox hb; have n0_ := Aside0.mk (blk_below (g := gb101) (o := .cells #[.int .i64 a0_0, .slice A0_1 l0_1.length c0_1] 38 (0, 0)) (by (with_reducible repeat (first | refine blk_drewN ?_ _ | refine blk_drew ?_ | refine blk_alloc ?_ _)); exact BK101.out) hb); have n1_ := Aside0.mk (below_step (by repeat (first | (with_reducible first | exact HB.out | apply below_alloc | apply pw_below_drewN | apply below_drew1 | refine below_set ?_ GE101.out) | exact HB.out)) hb); have n2_ := Aside0.mk (hbox); have n3_ := Aside0.mk ((by rw [hg]; exact (below_size (by repeat (first | (with_reducible first | exact HB.out | apply below_alloc | apply pw_below_drewN | apply below_drew1 | refine below_set ?_ GE101.out) | exact HB.out))) : w.heap.size ≤ gb102)); have n4_ := Aside0.mk ((by rw [hg]; exact (below_size (by repeat (first | (with_reducible first | exact HB.out | apply below_alloc | apply pw_below_drewN | apply below_drew1 | refine below_set ?_ GE101.out) | exact HB.out))) : w.heap.size ≤ gb102)); have n5_ := Aside0.mk ((by rw [hg]; exact Nat.ne_of_lt (blk_lt (g := gb101) (o := .cells #[.int .i64 a0_0, .slice A0_1 l0_1.length c0_1] 38 (0, 0)) (by (with_reducible repeat (first | refine blk_drewN ?_ _ | refine blk_drew ?_ | refine blk_alloc ?_ _)); exact BK101.out)) : gb101 ≠ gb102)); have n6_ := Aside0.mk ((by rw [hg]; exact Nat.ne_of_gt (blk_lt (g := gb101) (o := .cells #[.int .i64 a0_0, .slice A0_1 l0_1.length c0_1] 38 (0, 0)) (by (with_reducible repeat (first | refine blk_drewN ?_ _ | refine blk_drew ?_ | refine blk_alloc ?_ _)); exact BK101.out)) : gb102 ≠ gb101)); clear BK101; clear HB; have BK101 := n0_; have HB := n1_; have BK102 := n2_; have GW102 := n3_; have GE102 := n4_; have NB101_102 := n5_; have NB102_101 := n6_; clear n0_ n1_ n2_ n3_ n4_ n5_ n6_; clear hb hbox hg)))
 (try simp only [Act.put, List.setIfInBounds_toArray, List.set_cons_zero, List.set_cons_succ])
 go_cut [19] (fun v19 wc => ∃ (kq : Nat) (x19_2 : Bool), v19 = .bool x19_2 ∧ Aside0 (wickerref02_Same.j0 kq x19_2 a0_0 l0_1 a1_0 l1_1 = some r) ∧ Aside0 (kq ≤ k) ∧ Aside0 (wc.heap[gb101]? = some (.cells #[.int .i64 a0_0, (.slice A0_1 l0_1.length c0_1)] 38 (0, 0))) ∧ Aside0 (wc.heap[gb102]? = some (.cells #[.int .i64 a1_0, (.slice A1_1 l1_1.length c1_1)] 38 (0, 0))) ∧ Aside0 (Below w.heap.size w wc))
 case first =>
  have H := HC3.out
  clear HC3
  by_cases c6 : a0_0 = a1_0
  ·rw [if_pos c6] at H
   have c6b0 : (a0_0 == a1_0) = true := beq_iff_eq.mpr c6
   have c6b1 : (a0_0 != a1_0) = false := bne_eq_false_iff_eq.mpr c6
   clear c6
   (first | rw [c6b0] | (simp only [i64_w, i32_w]; rw [c6b0]) | skip)
   have H' := Aside0.mk H
   clear H
   have hnb7 := NB101_102.out
   have hnc7 := NB102_101.out
   have hcz8_0 : w5.cell? ⟨gb101, 0, none⟩ = some (.int .i64 a0_0) := (blk_cell BK101.out 0).trans rfl
   have hcz8_1 : w5.cell? ⟨gb101, 1, none⟩ = some (.slice A0_1 l0_1.length c0_1) := (blk_cell BK101.out 1).trans rfl
   have hfz8_0 := blk_frozen BK101.out 0
   have hfz8_1 := blk_frozen BK101.out 1
   have hcz9_0 : w5.cell? ⟨gb102, 0, none⟩ = some (.int .i64 a1_0) := (blk_cell BK102.out 0).trans rfl
   have hcz9_1 : w5.cell? ⟨gb102, 1, none⟩ = some (.slice A1_1 l1_1.length c1_1) := (blk_cell BK102.out 1).trans rfl
   have hfz9_0 := blk_frozen BK102.out 0
   have hfz9_1 := blk_frozen BK102.out 1
   go_wp2
   repeat (go_quiet (fail); try go_wp2)
   go_meet
   case rel => exact ⟨_, (((l0_1.length : Int) != (l1_1.length : Int))), (by first | rfl | (simp; done) | (simp [*]; done)), H', ⟨by first | omega | exact Nat.le_refl _⟩, ⟨by (with_reducible repeat (first | refine blk_drewN ?_ _ | refine blk_drew ?_ | refine blk_alloc ?_ _)); exact BK101.out⟩, ⟨by (with_reducible repeat (first | refine blk_drewN ?_ _ | refine blk_drew ?_ | refine blk_alloc ?_ _)); exact BK102.out⟩, ⟨by repeat (first | (with_reducible first | exact HB.out | apply below_alloc | apply pw_below_drewN | apply below_drew1 | refine below_set ?_ GE101.out | refine below_set ?_ GE102.out) | exact HB.out)⟩⟩
  ·rw [if_neg c6] at H
   have c6b0 : (a0_0 == a1_0) = false := beq_eq_false_iff_ne.mpr c6
   have c6b1 : (a0_0 != a1_0) = true := bne_iff_ne.mpr c6
   (first | rw [c6b0] | (simp only [i64_w, i32_w]; rw [c6b0]) | skip)
   have H' := Aside0.mk H
   clear H
   have hnb10 := NB101_102.out
   have hnc10 := NB102_101.out
   have hcz11_0 : w5.cell? ⟨gb101, 0, none⟩ = some (.int .i64 a0_0) := (blk_cell BK101.out 0).trans rfl
   have hcz11_1 : w5.cell? ⟨gb101, 1, none⟩ = some (.slice A0_1 l0_1.length c0_1) := (blk_cell BK101.out 1).trans rfl
   have hfz11_0 := blk_frozen BK101.out 0
   have hfz11_1 := blk_frozen BK101.out 1
   have hcz12_0 : w5.cell? ⟨gb102, 0, none⟩ = some (.int .i64 a1_0) := (blk_cell BK102.out 0).trans rfl
   have hcz12_1 : w5.cell? ⟨gb102, 1, none⟩ = some (.slice A1_1 l1_1.length c1_1) := (blk_cell BK102.out 1).trans rfl
   have hfz12_0 := blk_frozen BK102.out 0
   have hfz12_1 := blk_frozen BK102.out 1
   go_wp2
   repeat (go_quiet (fail); try go_wp2)
   go_meet
   case rel => exact ⟨_, (true), (by first | rfl | (simp; done) | (simp [*]; done)), H', ⟨by first | omega | exact Nat.le_refl _⟩, ⟨by (with_reducible repeat (first | refine blk_drewN ?_ _ | refine blk_drew ?_ | refine blk_alloc ?_ _)); exact BK101.out⟩, ⟨by (with_reducible repeat (first | refine blk_drewN ?_ _ | refine blk_drew ?_ | refine blk_alloc ?_ _)); exact BK102.out⟩, ⟨by repeat (first | (with_reducible first | exact HB.out | apply below_alloc | apply pw_below_drewN | apply below_drew1 | refine below_set ?_ GE101.out | refine below_set ?_ GE102.out) | exact HB.out)⟩⟩
 case rest =>
  clear HC3
  try clear c1
  try clear p2
  try clear c5
  try clear c6
  try clear c6b0
  try clear c6b1
  try clear c7
  try clear c10
  try clear hcz11_0
  try clear hcz11_1
  try clear hcz12_0
  try clear hcz12_1
  try clear hcz8_0
  try clear hcz8_1
  try clear hcz9_0
  try clear hcz9_1
  try clear hfz11_0
  try clear hfz11_1
  try clear hfz12_0
  try clear hfz12_1
  try clear hfz8_0
  try clear hfz8_1
  try clear hfz9_0
  try clear hfz9_1
  obtain ⟨kq, x19_2, rfl, HA, HJ2, BK101, BK102, HB⟩ := hcut
  cases kq with
  | zero => exact absurd HA.out (by simp [wickerref02_Same.j0])
  | succ kj2 =>
   have H := HA.out
   clear HA
   simp only [wickerref02_Same.j0] at H
   by_cases c13 : x19_2 = true
   ·subst c13
    have H1 : (some false) = some r := by rw [if_pos rfl] at H; exact H
    clear H
    have H := H1
    clear H1
    obtain rfl := Option.some.inj H
    go_wp2
    repeat (go_quiet (fail); try go_wp2)
    go_ret
    exact ⟨by first | rfl | (simp [errW_none, errW_some] <;> rfl) | (simp [*, errW_none, errW_some] <;> rfl), by repeat (first | (with_reducible first | exact HB.out | apply below_alloc | apply pw_below_drewN | apply below_drew1 | refine below_set ?_ GE101.out | refine below_set ?_ GE102.out) | exact HB.out)⟩
   ·replace c13 := Bool.eq_false_iff.mpr c13
    subst c13
    have H1 : (wickerref02_Same.l0 kj2 0 a0_0 l0_1 a1_0 l1_1) = some r := by rw [if_neg (show ¬ (false = true) by decide)] at H; exact H
    clear H
    have H := H1
    clear H1
    have H' := Aside0.mk H
    clear H
    go_wp2
    repeat (go_quiet (fail); try go_wp2)
    go_loopg [5] kj2 (fun kq v5 w' => ∃ (x5_2 : Int), v5 = .int .i64 x5_2 ∧ Aside0 (wickerref02_Same.l0 kq x5_2 a0_0 l0_1 a1_0 l1_1 = some r) ∧ Aside0 (kq ≤ kj2) ∧ Aside0 (w'.heap[gb101]? = some (.cells #[.int .i64 a0_0, (.slice A0_1 l0_1.length c0_1)] 38 (0, 0))) ∧ Aside0 (w'.heap[gb102]? = some (.cells #[.int .i64 a1_0, (.slice A1_1 l1_1.length c1_1)] 38 (0, 0))) ∧ Aside0 (Below w.heap.size w w'))
    case atStart => exact ⟨(0), (by first | rfl | (simp; done) | (simp [*]; done)), H', ⟨Nat.le_refl _⟩, ⟨by (with_reducible repeat (first | refine blk_drewN ?_ _ | refine blk_drew ?_ | refine blk_alloc ?_ _)); exact BK101.out⟩, ⟨by (with_reducible repeat (first | refine blk_drewN ?_ _ | refine blk_drew ?_ | refine blk_alloc ?_ _)); exact BK102.out⟩, ⟨by repeat (first | (with_reducible first | exact HB.out | apply below_alloc | apply pw_below_drewN | apply below_drew1 | refine below_set ?_ GE101.out | refine below_set ?_ GE102.out) | exact HB.out)⟩⟩
    case round =>
     clear H'
     try clear c1
     try clear p2
     try clear c5
     try clear c6
     try clear c6b0
     try clear c6b1
     try clear c7
     try clear c10
     try clear c13
     try clear hcz11_0
     try clear hcz11_1
     try clear hcz12_0
     try clear hcz12_1
     try clear hcz8_0
     try clear hcz8_1
     try clear hcz9_0
     try clear hcz9_1
     try clear hfz11_0
     try clear hfz11_1
     try clear hfz12_0
     try clear hfz12_1
     try clear hfz8_0
     try clear hfz8_1
     try clear hfz9_0
     try clear hfz9_1
     try clear p2
     obtain ⟨x5_2, rfl, HA, HK2, BK101, BK102, HB⟩ := hrel
     cases gk with
     | zero => exact absurd HA.out (by simp [wickerref02_Same.l0])
     | succ k2 =>
      have H := HA.out
      clear HA
      simp only [wickerref02_Same.l0] at H
      by_cases c14 : x5_2 < (l0_1.length : Int)
      ·rw [if_pos c14] at H
       have c14b0 : decide (x5_2 < (l0_1.length : Int)) = true := decide_eq_true c14
       clear c14
       by_cases c15 : 0 ≤ x5_2
       ·rw [if_pos c15] at H
        have c15b0 : decide (0 ≤ x5_2) = true := decide_eq_true c15
        clear c15
        by_cases c16 : x5_2 < (l1_1.length : Int)
        ·rw [if_pos c16] at H
         have c16b0 : decide (x5_2 < (l1_1.length : Int)) = true := decide_eq_true c16
         clear c16
         by_cases c17 : (rd l0_1 x5_2) = (rd l1_1 x5_2)
         ·rw [if_pos c17] at H
          have c17b0 : ((rd l0_1 x5_2) == (rd l1_1 x5_2)) = true := beq_iff_eq.mpr c17
          have c17b1 : ((rd l0_1 x5_2) != (rd l1_1 x5_2)) = false := bne_eq_false_iff_eq.mpr c17
          clear c17
          have H' := Aside0.mk H
          clear H
          have hnb18 := NB101_102.out
          have hnc18 := NB102_101.out
          have hcz19_0 : wr.cell? ⟨gb101, 0, none⟩ = some (.int .i64 a0_0) := (blk_cell BK101.out 0).trans rfl
          have hcz19_1 : wr.cell? ⟨gb101, 1, none⟩ = some (.slice A0_1 l0_1.length c0_1) := (blk_cell BK101.out 1).trans rfl
          have hfz19_0 := blk_frozen BK101.out 0
          have hfz19_1 := blk_frozen BK101.out 1
          have p103 : 0 ≤ (x5_2 : Int) := of_decide_eq_true (by first | (with_reducible assumption) | assumption)
          have q103 : x5_2 < (l0_1.length : Int) := of_decide_eq_true (by first | (with_reducible assumption) | assumption)
          obtain ⟨ad103, e103, hx103_0⟩ := Kd.at_int HR0_1.out x5_2 p103 q103
          cases e103
          replace hx103_0 := (HB.out.cell (World.block_lt_of_cell? w _ hx103_0)).trans hx103_0
          replace p103 := eq_true p103
          replace q103 := eq_true q103
          have hcz20_0 : wr.cell? ⟨gb102, 0, none⟩ = some (.int .i64 a1_0) := (blk_cell BK102.out 0).trans rfl
          have hcz20_1 : wr.cell? ⟨gb102, 1, none⟩ = some (.slice A1_1 l1_1.length c1_1) := (blk_cell BK102.out 1).trans rfl
          have hfz20_0 := blk_frozen BK102.out 0
          have hfz20_1 := blk_frozen BK102.out 1
          have p104 : 0 ≤ (x5_2 : Int) := of_decide_eq_true (by first | (with_reducible assumption) | assumption)
          have q104 : x5_2 < (l1_1.length : Int) := of_decide_eq_true (by first | (with_reducible assumption) | assumption)
          obtain ⟨ad104, e104, hx104_0⟩ := Kd.at_int HR1_1.out x5_2 p104 q104
          cases e104
          replace hx104_0 := (HB.out.cell (World.block_lt_of_cell? w _ hx104_0)).trans hx104_0
          replace p104 := eq_true p104
          replace q104 := eq_true q104
          go_wp2
          repeat (go_quiet (fail); try go_wp2)
          go_roundg k2
          case measure => have := HJ2.out; have := HK2.out; omega
          case rel => exact ⟨(wrap64 (x5_2 + 1)), (by first | rfl | (simp; done) | (simp [*]; done)), H', ⟨by have := HJ2.out; have := HK2.out; omega⟩, ⟨by (with_reducible repeat (first | refine blk_drewN ?_ _ | refine blk_drew ?_ | refine blk_alloc ?_ _)); exact BK101.out⟩, ⟨by (with_reducible repeat (first | refine blk_drewN ?_ _ | refine blk_drew ?_ | refine blk_alloc ?_ _)); exact BK102.out⟩, ⟨by repeat (first | (with_reducible first | exact HB.out | apply below_alloc | apply pw_below_drewN | apply below_drew1 | refine below_set ?_ GE101.out | refine below_set ?_ GE102.out) | exact HB.out)⟩⟩
         ·rw [if_neg c17] at H
          have c17b0 : ((rd l0_1 x5_2) == (rd l1_1 x5_2)) = false := beq_eq_false_iff_ne.mpr c17
          have c17b1 : ((rd l0_1 x5_2) != (rd l1_1 x5_2)) = true := bne_iff_ne.mpr c17
          obtain rfl := Option.some.inj H
          have hnb21 := NB101_102.out
          have hnc21 := NB102_101.out
          have hcz22_0 : wr.cell? ⟨gb101, 0, none⟩ = some (.int .i64 a0_0) := (blk_cell BK101.out 0).trans rfl
          have hcz22_1 : wr.cell? ⟨gb101, 1, none⟩ = some (.slice A0_1 l0_1.length c0_1) := (blk_cell BK101.out 1).trans rfl
          have hfz22_0 := blk_frozen BK101.out 0
          have hfz22_1 := blk_frozen BK101.out 1
          have p103 : 0 ≤ (x5_2 : Int) := of_decide_eq_true (by first | (with_reducible assumption) | assumption)
          have q103 : x5_2 < (l0_1.length : Int) := of_decide_eq_true (by first | (with_reducible assumption) | assumption)
          obtain ⟨ad103, e103, hx103_0⟩ := Kd.at_int HR0_1.out x5_2 p103 q103
          cases e103
          replace hx103_0 := (HB.out.cell (World.block_lt_of_cell? w _ hx103_0)).trans hx103_0
          replace p103 := eq_true p103
          replace q103 := eq_true q103
          have hcz23_0 : wr.cell? ⟨gb102, 0, none⟩ = some (.int .i64 a1_0) := (blk_cell BK102.out 0).trans rfl
          have hcz23_1 : wr.cell? ⟨gb102, 1, none⟩ = some (.slice A1_1 l1_1.length c1_1) := (blk_cell BK102.out 1).trans rfl
          have hfz23_0 := blk_frozen BK102.out 0
          have hfz23_1 := blk_frozen BK102.out 1
          have p104 : 0 ≤ (x5_2 : Int) := of_decide_eq_true (by first | (with_reducible assumption) | assumption)
          have q104 : x5_2 < (l1_1.length : Int) := of_decide_eq_true (by first | (with_reducible assumption) | assumption)
          obtain ⟨ad104, e104, hx104_0⟩ := Kd.at_int HR1_1.out x5_2 p104 q104
          cases e104
          replace hx104_0 := (HB.out.cell (World.block_lt_of_cell? w _ hx104_0)).trans hx104_0
          replace p104 := eq_true p104
          replace q104 := eq_true q104
          go_wp2
          repeat (go_quiet (fail); try go_wp2)
          go_ret
          exact ⟨by first | rfl | (simp [errW_none, errW_some] <;> rfl) | (simp [*, errW_none, errW_some] <;> rfl), by repeat (first | (with_reducible first | exact HB.out | apply below_alloc | apply pw_below_drewN | apply below_drew1 | refine below_set ?_ GE101.out | refine below_set ?_ GE102.out) | exact HB.out)⟩
        ·rw [if_neg c16] at H
         exact absurd H (by simp)
       ·rw [if_neg c15] at H
        exact absurd H (by simp)
      ·rw [if_neg c14] at H
       have c14b0 : decide (x5_2 < (l0_1.length : Int)) = false := decide_eq_false c14
       clear c14
       obtain rfl := Option.some.inj H
       have hnb24 := NB101_102.out
       have hnc24 := NB102_101.out
       have hcz25_0 : wr.cell? ⟨gb101, 0, none⟩ = some (.int .i64 a0_0) := (blk_cell BK101.out 0).trans rfl
       have hcz25_1 : wr.cell? ⟨gb101, 1, none⟩ = some (.slice A0_1 l0_1.length c0_1) := (blk_cell BK101.out 1).trans rfl
       have hfz25_0 := blk_frozen BK101.out 0
       have hfz25_1 := blk_frozen BK101.out 1
       go_wp2
       repeat (go_quiet (fail); try go_wp2)
       go_ret
       exact ⟨by first | rfl | (simp [errW_none, errW_some] <;> rfl) | (simp [*, errW_none, errW_some] <;> rfl), by repeat (first | (with_reducible first | exact HB.out | apply below_alloc | apply pw_below_drewN | apply below_drew1 | refine below_set ?_ GE101.out | refine below_set ?_ GE102.out) | exact HB.out)⟩
def wickerref02_Find.l0 : Nat → List (S38) → Int → Int → List Int → Option (Int)
 | 0, _, _, _, _ => none
 | k + 1, x0, x5, x102000, x102001 => if x5 < (x0.length : Int) then (if 0 ≤ x5 then ((wickerref02_Same.f k ((rd_T38 x0 x5).f0) ((rd_T38 x0 x5).f1) x102000 x102001).bind fun t103 => (if t103 = true then (some x5) else (wickerref02_Find.l0 k x0 (wrap64 (x5 + 1)) x102000 x102001))) else (none)) else (some (-1))
def wickerref02_Find.f (k : Nat) (l0 : List (S38)) (a1_0 : Int) (l1_1 : List Int) : Option (Int) := wickerref02_Find.l0 k l0 0 a1_0 l1_1
set_option maxHeartbeats 8000000 in
set_option maxRecDepth 100000 in
theorem wickerref02_Find.calls (k : Nat) (A0 : Option Addr) (c0 : Nat) (l0 : List (S38)) (a1_0 : Int) (A1_1 : Option Addr) (c1_1 : Nat) (l1_1 : List Int) (r : Int) (w : World) (hr0 : Kd.C k38 w A0 l0.length l0) (hc0 : l0.length ≤ c0) (hr1_1 : Kd.C (Kd.int .i64) w A1_1 l1_1.length l1_1) (hc1_1 : l1_1.length ≤ c1_1) (h : wickerref02_Find.f k l0 a1_0 l1_1 = some r) :
  Calls Tryd.prog 22 #[.slice A0 l0.length c0, .agg #[.int .i64 a1_0, .slice A1_1 l1_1.length c1_1]] w fun e w' => e = .returned (.int .i64 r) ∧ Below w.heap.size w w' := by
 have hu38 := Tryd.underlying38
 have HR0 := Aside0.mk hr0
 have HC0 := Aside0.mk hc0
 clear hr0 hc0
 have HR1_1 := Aside0.mk hr1_1
 have HC1_1 := Aside0.mk hc1_1
 clear hr1_1 hc1_1
 have HB := Aside0.mk (Below.refl w.heap.size w)
 have H : (wickerref02_Find.l0 k l0 0 a1_0 l1_1) = some r := h
 clear h
 have H' := Aside0.mk H
 clear H
 go_enter Tryd.func22, Tryd.ntmps22
 go_wp2_with (first | ((with_reducible refine gate_dst (N := 3) rfl ?_); refine box_event ?hg (N := 3) ?hd (cs := #[.int .i64 a1_0, .slice A1_1 l1_1.length c1_1]) (t := 38) ?hr ?_; (case hd => rfl); (case hg => rfl); (case hr => first | (go_simp; done) | (go_simp; rfl)); intro gb101 hg w3 hbox hb; have n0_ := Aside0.mk (below_step (by repeat (first | (with_reducible first | exact HB.out | apply below_alloc | apply pw_below_drewN | apply below_drew1) | exact HB.out)) hb); have n1_ := Aside0.mk (hbox); have n2_ := Aside0.mk ((by rw [hg]; exact (below_size (by repeat (first | (with_reducible first | exact HB.out | apply below_alloc | apply pw_below_drewN | apply below_drew1) | exact HB.out))) : w.heap.size ≤ gb101)); have n3_ := Aside0.mk ((by rw [hg]; exact (below_size (by repeat (first | (with_reducible first | exact HB.out | apply below_alloc | apply pw_below_drewN | apply below_drew1) | exact HB.out))) : w.heap.size ≤ gb101)); clear HB; have HB := n0_; have BK101 := n1_; have GW101 := n2_; have GE101 := n3_; clear n0_ n1_ n2_ n3_; clear hb hbox hg))
 go_loopg [5] k (fun kq v5 w' => ∃ (x5_1 : Int), v5 = .int .i64 x5_1 ∧ Aside0 (wickerref02_Find.l0 kq l0 x5_1 a1_0 l1_1 = some r) ∧ Aside0 (kq ≤ k) ∧ Aside0 (w'.heap[gb101]? = some (.cells #[.int .i64 a1_0, (.slice A1_1 l1_1.length c1_1)] 38 (0, 0))) ∧ Aside0 (Below w.heap.size w w'))
 case atStart => exact ⟨(0), (by first | rfl | (simp; done) | (simp [*]; done)), H', ⟨Nat.le_refl _⟩, ⟨by (with_reducible repeat (first | refine blk_drewN ?_ _ | refine blk_drew ?_ | refine blk_alloc ?_ _)); exact BK101.out⟩, ⟨by repeat (first | (with_reducible first | exact HB.out | apply below_alloc | apply pw_below_drewN | apply below_drew1 | refine below_set ?_ GE101.out) | exact HB.out)⟩⟩
 case round =>
  clear H'
  try clear c1
  try clear c2
  try clear p2
  obtain ⟨x5_1, rfl, HA, HK1, BK101, HB⟩ := hrel
  cases gk with
  | zero => exact absurd HA.out (by simp [wickerref02_Find.l0])
  | succ k1 =>
   have H := HA.out
   clear HA
   simp only [wickerref02_Find.l0] at H
   by_cases c4 : x5_1 < (l0.length : Int)
   ·rw [if_pos c4] at H
    have c4b0 : decide (x5_1 < (l0.length : Int)) = true := decide_eq_true c4
    clear c4
    by_cases c5 : 0 ≤ x5_1
    ·rw [if_pos c5] at H
     have c5b0 : decide (0 ≤ x5_1) = true := decide_eq_true c5
     clear c5
     replace H := Option.bind_eq_some_iff.mp H
     obtain ⟨t103, A60, H⟩ := H
     replace H : (if t103 = true then (some x5_1) else (wickerref02_Find.l0 k1 l0 (wrap64 (x5_1 + 1)) a1_0 l1_1)) = some r := H
     have A6 := Aside0.mk A60
     clear A60
     by_cases c7 : t103 = true
     ·subst c7
      have H1 : (some x5_1) = some r := by rw [if_pos rfl] at H; exact H
      clear H
      have H := H1
      clear H1
      obtain rfl := Option.some.inj H
      try go_wp2
      have n0_ := Aside0.mk (blk_drew BK101.out)
      have n1_ := Aside0.mk (below_drew1 HB.out)
      clear BK101
      clear HB
      have BK101 := n0_
      have HB := n1_
      clear n0_ n1_
      have p102 : 0 ≤ (x5_1 : Int) := of_decide_eq_true (by first | (with_reducible assumption) | assumption)
      have q102 : x5_1 < (l0.length : Int) := of_decide_eq_true (by first | (with_reducible assumption) | assumption)
      obtain ⟨ad102, A102_1, c102_1, e102, hx102_0, hx102_1, hl102_1, hi102_1⟩ := at_T38 HR0.out x5_1 p102 q102
      have hw102_1 := hx102_1
      have hw102_0 := hx102_0
      cases e102
      replace hx102_0 := (HB.out.cell (World.block_lt_of_cell? w _ hx102_0)).trans hx102_0
      replace hx102_1 := (HB.out.cell (World.block_lt_of_cell? w _ hx102_1)).trans hx102_1
      have HR102_1 := Aside0.mk hi102_1
      have HC102_1 := Aside0.mk hl102_1
      clear hi102_1 hl102_1
      replace p102 := eq_true p102
      replace q102 := eq_true q102
      refine start_ (n := 6) (S := fun w' => w'.cell? ⟨gb101, 0, none⟩ = some (.int .i64 a1_0) ∧ w'.cell? ⟨gb101, 1, none⟩ = some (.slice A1_1 l1_1.length c1_1) ∧ w'.cell? (ad102.add ((x5_1).toNat * 2)) = some (.int .i64 ((rd_T38 l0 x5_1).f0)) ∧ w'.cell? ⟨(ad102.add ((x5_1).toNat * 2)).block, (ad102.add ((x5_1).toNat * 2)).off + 1, none⟩ = some (.slice A102_1 ((rd_T38 l0 x5_1).f1).length c102_1)) (ds := []) #[false, false, false, false, false, false] (by kernel_rfl) rfl rfl ⟨(blk_cell BK101.out 0).trans rfl, (blk_cell BK101.out 1).trans rfl, ((HB.out.cell (World.block_lt_of_cell? w _ hw102_0)).trans hw102_0), ((HB.out.cell (World.block_lt_of_cell? w _ hw102_1)).trans hw102_1)⟩ (fun hHeld => ?_)
      generalize wr.drew = w8 at BK101 HB HR102_1 hx102_0 hx102_1 hHeld ⊢
      refine pure_ (i := 0) (N := some 12) (v := ?_) (a' := ?_) #[true, false, false, false, false, false] rfl rfl (by kernel_rfl) (fun _ _ _ h => h) (Or.inl ⟨by rfl, ?_⟩) ?_ ?_
      rotate_left
      ·intro w'
       go_simp
       with_reducible rfl
      rotate_left
      ·simp only [Act.put, List.setIfInBounds_toArray, List.set_cons_zero, List.set_cons_succ, i64_w, i32_w]
       rfl
      refine pure_ (i := 1) (N := some 13) (v := ?_) (a' := ?_) #[true, true, false, false, false, false] rfl rfl (by kernel_rfl) (fun _ _ _ h => h) (Or.inl ⟨by rfl, ?_⟩) ?_ ?_
      rotate_left
      ·intro w'
       go_simp
       with_reducible rfl
      rotate_left
      ·simp only [Act.put, List.setIfInBounds_toArray, List.set_cons_zero, List.set_cons_succ, i64_w, i32_w]
       rfl
      refine pure_ (i := 2) (N := some 14) (v := ?_) (a' := ?_) #[true, true, true, false, false, false] rfl rfl (by kernel_rfl) (fun _ _ _ h => h) (Or.inl ⟨by rfl, ?_⟩) ?_ ?_
      rotate_left
      ·intro w'
       go_simp
       with_reducible rfl
      rotate_left
      ·simp only [Act.put, List.setIfInBounds_toArray, List.set_cons_zero, List.set_cons_succ, i64_w, i32_w]
       rfl
      refine take_ (i := 3) (N := some 15) (v := ?_) (a' := ?_) #[true, true, true, true, false, false] rfl rfl (by kernel_rfl) (fun _ _ _ h => h) (Or.inl ⟨by rfl, ?_⟩) hHeld ?_ ?_
      rotate_left
      ·rintro w' ⟨s0, s1, s2, s3⟩
       go_simp
       with_reducible rfl
      rotate_left
      ·simp only [Act.put, List.setIfInBounds_toArray, List.set_cons_zero, List.set_cons_succ, i64_w, i32_w]
       rfl
      refine take_ (i := 4) (N := some 16) (v := ?_) (a' := ?_) #[true, true, true, true, true, false] rfl rfl (by kernel_rfl) (fun _ _ _ h => h) (Or.inl ⟨by rfl, ?_⟩) hHeld ?_ ?_
      rotate_left
      ·rintro w' ⟨s0, s1, s2, s3⟩
       go_simp
       with_reducible rfl
      rotate_left
      ·simp only [Act.put, List.setIfInBounds_toArray, List.set_cons_zero, List.set_cons_succ, i64_w, i32_w]
       rfl
      refine one_ (i := 5) (N := some 17) #[true, true, true, true, true, true] rfl rfl (by kernel_rfl) (by decide) (fun K hK => ?_)
      refine goes_ Tryd.func54 (by kernel_rfl) rfl #[.agg #[.int .i64 ((rd_T38 l0 x5_1).f0), .slice A102_1 ((rd_T38 l0 x5_1).f1).length c102_1], .agg #[.int .i64 a1_0, .slice A1_1 l1_1.length c1_1]] (by rfl) rfl rfl (by (try simp only [List.map_toArray, List.map_cons, List.map_nil]); first | done | rfl | (simp only [List.length_drop, List.length_take]; rfl)) ?_
      with_reducible refine (wickerref02_Same.calls k1 ((rd_T38 l0 x5_1).f0) _ _ ((rd_T38 l0 x5_1).f1) a1_0 _ _ l1_1 true _ ?side1 ?side2 ?side3 ?side4 A6.out).mono ?_
      (case side1 => repeat (first | exact (Kd.C_below HR102_1.out HB.out) | (with_reducible refine Kd.C_alloc ?_ _) | (with_reducible refine Kd.C_drewN ?_ _) | (with_reducible refine Kd.C_drew ?_)))
      (case side2 => exact HC102_1.out)
      (case side3 => repeat (first | exact (Kd.C_below HR1_1.out HB.out) | (with_reducible refine Kd.C_alloc ?_ _) | (with_reducible refine Kd.C_drewN ?_ _) | (with_reducible refine Kd.C_drew ?_)))
      (case side4 => exact HC1_1.out)
      rintro e w9 ⟨rfl, hb⟩
      refine ⟨_, rfl, ?_⟩
      have n0_ := Aside0.mk (blk_below (g := gb101) (o := .cells #[.int .i64 a1_0, .slice A1_1 l1_1.length c1_1] 38 (0, 0)) (by (with_reducible repeat (first | refine blk_drewN ?_ _ | refine blk_drew ?_ | refine blk_alloc ?_ _)); exact BK101.out) hb)
      have n1_ := Aside0.mk (below_step (by repeat (first | (with_reducible first | exact HB.out | apply below_alloc | apply pw_below_drewN | apply below_drew1 | refine below_set ?_ GE101.out) | exact HB.out)) hb)
      clear BK101
      clear HB
      have BK101 := n0_
      have HB := n1_
      clear n0_ n1_
      (try clear hb)
      (try clear hb2)
      (try clear hk)
      (try clear hi)
      refine hK.out _ _ ⟨(blk_cell BK101.out 0).trans rfl, (blk_cell BK101.out 1).trans rfl, ((HB.out.cell (World.block_lt_of_cell? w _ hw102_0)).trans hw102_0), ((HB.out.cell (World.block_lt_of_cell? w _ hw102_1)).trans hw102_1)⟩ (fun hHeld => ?_)
      clear hK K
      refine norm_ (a' := ?_) ?_ ?_
      rotate_left
      ·show Act.put _ (some 17) _ = _
       simp only [Act.put, List.setIfInBounds_toArray, List.set_cons_zero, List.set_cons_succ, i64_w, i32_w]
       rfl
      refine done_ (by kernel_rfl) ?_
      try go_wp2
      go_ret
      exact ⟨by first | rfl | (simp [errW_none, errW_some] <;> rfl) | (simp [*, errW_none, errW_some] <;> rfl), by repeat (first | (with_reducible first | exact HB.out | apply below_alloc | apply pw_below_drewN | apply below_drew1 | refine below_set ?_ GE101.out) | exact HB.out)⟩
     ·replace c7 := Bool.eq_false_iff.mpr c7
      subst c7
      have H1 : (wickerref02_Find.l0 k1 l0 (wrap64 (x5_1 + 1)) a1_0 l1_1) = some r := by rw [if_neg (show ¬ (false = true) by decide)] at H; exact H
      clear H
      have H := H1
      clear H1
      have H' := Aside0.mk H
      clear H
      try go_wp2
      have n0_ := Aside0.mk (blk_drew BK101.out)
      have n1_ := Aside0.mk (below_drew1 HB.out)
      clear BK101
      clear HB
      have BK101 := n0_
      have HB := n1_
      clear n0_ n1_
      have p102 : 0 ≤ (x5_1 : Int) := of_decide_eq_true (by first | (with_reducible assumption) | assumption)
      have q102 : x5_1 < (l0.length : Int) := of_decide_eq_true (by first | (with_reducible assumption) | assumption)
      obtain ⟨ad102, A102_1, c102_1, e102, hx102_0, hx102_1, hl102_1, hi102_1⟩ := at_T38 HR0.out x5_1 p102 q102
      have hw102_1 := hx102_1
      have hw102_0 := hx102_0
      cases e102
      replace hx102_0 := (HB.out.cell (World.block_lt_of_cell? w _ hx102_0)).trans hx102_0
      replace hx102_1 := (HB.out.cell (World.block_lt_of_cell? w _ hx102_1)).trans hx102_1
      have HR102_1 := Aside0.mk hi102_1
      have HC102_1 := Aside0.mk hl102_1
      clear hi102_1 hl102_1
      replace p102 := eq_true p102
      replace q102 := eq_true q102
      refine start_ (n := 6) (S := fun w' => w'.cell? ⟨gb101, 0, none⟩ = some (.int .i64 a1_0) ∧ w'.cell? ⟨gb101, 1, none⟩ = some (.slice A1_1 l1_1.length c1_1) ∧ w'.cell? (ad102.add ((x5_1).toNat * 2)) = some (.int .i64 ((rd_T38 l0 x5_1).f0)) ∧ w'.cell? ⟨(ad102.add ((x5_1).toNat * 2)).block, (ad102.add ((x5_1).toNat * 2)).off + 1, none⟩ = some (.slice A102_1 ((rd_T38 l0 x5_1).f1).length c102_1)) (ds := []) #[false, false, false, false, false, false] (by kernel_rfl) rfl rfl ⟨(blk_cell BK101.out 0).trans rfl, (blk_cell BK101.out 1).trans rfl, ((HB.out.cell (World.block_lt_of_cell? w _ hw102_0)).trans hw102_0), ((HB.out.cell (World.block_lt_of_cell? w _ hw102_1)).trans hw102_1)⟩ (fun hHeld => ?_)
      generalize wr.drew = w10 at BK101 HB HR102_1 hx102_0 hx102_1 hHeld ⊢
      refine pure_ (i := 0) (N := some 12) (v := ?_) (a' := ?_) #[true, false, false, false, false, false] rfl rfl (by kernel_rfl) (fun _ _ _ h => h) (Or.inl ⟨by rfl, ?_⟩) ?_ ?_
      rotate_left
      ·intro w'
       go_simp
       with_reducible rfl
      rotate_left
      ·simp only [Act.put, List.setIfInBounds_toArray, List.set_cons_zero, List.set_cons_succ, i64_w, i32_w]
       rfl
      refine pure_ (i := 1) (N := some 13) (v := ?_) (a' := ?_) #[true, true, false, false, false, false] rfl rfl (by kernel_rfl) (fun _ _ _ h => h) (Or.inl ⟨by rfl, ?_⟩) ?_ ?_
      rotate_left
      ·intro w'
       go_simp
       with_reducible rfl
      rotate_left
      ·simp only [Act.put, List.setIfInBounds_toArray, List.set_cons_zero, List.set_cons_succ, i64_w, i32_w]
       rfl
      refine pure_ (i := 2) (N := some 14) (v := ?_) (a' := ?_) #[true, true, true, false, false, false] rfl rfl (by kernel_rfl) (fun _ _ _ h => h) (Or.inl ⟨by rfl, ?_⟩) ?_ ?_
      rotate_left
      ·intro w'
       go_simp
       with_reducible rfl
      rotate_left
      ·simp only [Act.put, List.setIfInBounds_toArray, List.set_cons_zero, List.set_cons_succ, i64_w, i32_w]
       rfl
      refine take_ (i := 3) (N := some 15) (v := ?_) (a' := ?_) #[true, true, true, true, false, false] rfl rfl (by kernel_rfl) (fun _ _ _ h => h) (Or.inl ⟨by rfl, ?_⟩) hHeld ?_ ?_
      rotate_left
      ·rintro w' ⟨s0, s1, s2, s3⟩
       go_simp
       with_reducible rfl
      rotate_left
      ·simp only [Act.put, List.setIfInBounds_toArray, List.set_cons_zero, List.set_cons_succ, i64_w, i32_w]
       rfl
      refine take_ (i := 4) (N := some 16) (v := ?_) (a' := ?_) #[true, true, true, true, true, false] rfl rfl (by kernel_rfl) (fun _ _ _ h => h) (Or.inl ⟨by rfl, ?_⟩) hHeld ?_ ?_
      rotate_left
      ·rintro w' ⟨s0, s1, s2, s3⟩
       go_simp
       with_reducible rfl
      rotate_left
      ·simp only [Act.put, List.setIfInBounds_toArray, List.set_cons_zero, List.set_cons_succ, i64_w, i32_w]
       rfl
      refine one_ (i := 5) (N := some 17) #[true, true, true, true, true, true] rfl rfl (by kernel_rfl) (by decide) (fun K hK => ?_)
      refine goes_ Tryd.func54 (by kernel_rfl) rfl #[.agg #[.int .i64 ((rd_T38 l0 x5_1).f0), .slice A102_1 ((rd_T38 l0 x5_1).f1).length c102_1], .agg #[.int .i64 a1_0, .slice A1_1 l1_1.length c1_1]] (by rfl) rfl rfl (by (try simp only [List.map_toArray, List.map_cons, List.map_nil]); first | done | rfl | (simp only [List.length_drop, List.length_take]; rfl)) ?_
      with_reducible refine (wickerref02_Same.calls k1 ((rd_T38 l0 x5_1).f0) _ _ ((rd_T38 l0 x5_1).f1) a1_0 _ _ l1_1 false _ ?side1 ?side2 ?side3 ?side4 A6.out).mono ?_
      (case side1 => repeat (first | exact (Kd.C_below HR102_1.out HB.out) | (with_reducible refine Kd.C_alloc ?_ _) | (with_reducible refine Kd.C_drewN ?_ _) | (with_reducible refine Kd.C_drew ?_)))
      (case side2 => exact HC102_1.out)
      (case side3 => repeat (first | exact (Kd.C_below HR1_1.out HB.out) | (with_reducible refine Kd.C_alloc ?_ _) | (with_reducible refine Kd.C_drewN ?_ _) | (with_reducible refine Kd.C_drew ?_)))
      (case side4 => exact HC1_1.out)
      rintro e w11 ⟨rfl, hb⟩
      refine ⟨_, rfl, ?_⟩
      have n0_ := Aside0.mk (blk_below (g := gb101) (o := .cells #[.int .i64 a1_0, .slice A1_1 l1_1.length c1_1] 38 (0, 0)) (by (with_reducible repeat (first | refine blk_drewN ?_ _ | refine blk_drew ?_ | refine blk_alloc ?_ _)); exact BK101.out) hb)
      have n1_ := Aside0.mk (below_step (by repeat (first | (with_reducible first | exact HB.out | apply below_alloc | apply pw_below_drewN | apply below_drew1 | refine below_set ?_ GE101.out) | exact HB.out)) hb)
      clear BK101
      clear HB
      have BK101 := n0_
      have HB := n1_
      clear n0_ n1_
      (try clear hb)
      (try clear hb2)
      (try clear hk)
      (try clear hi)
      refine hK.out _ _ ⟨(blk_cell BK101.out 0).trans rfl, (blk_cell BK101.out 1).trans rfl, ((HB.out.cell (World.block_lt_of_cell? w _ hw102_0)).trans hw102_0), ((HB.out.cell (World.block_lt_of_cell? w _ hw102_1)).trans hw102_1)⟩ (fun hHeld => ?_)
      clear hK K
      refine norm_ (a' := ?_) ?_ ?_
      rotate_left
      ·show Act.put _ (some 17) _ = _
       simp only [Act.put, List.setIfInBounds_toArray, List.set_cons_zero, List.set_cons_succ, i64_w, i32_w]
       rfl
      refine done_ (by kernel_rfl) ?_
      try go_wp2
      go_roundg k1
      case measure => have := HK1.out; omega
      case rel => exact ⟨(wrap64 (x5_1 + 1)), (by first | rfl | (simp; done) | (simp [*]; done)), H', ⟨by have := HK1.out; omega⟩, ⟨by (with_reducible repeat (first | refine blk_drewN ?_ _ | refine blk_drew ?_ | refine blk_alloc ?_ _)); exact BK101.out⟩, ⟨by repeat (first | (with_reducible first | exact HB.out | apply below_alloc | apply pw_below_drewN | apply below_drew1 | refine below_set ?_ GE101.out) | exact HB.out)⟩⟩
    ·rw [if_neg c5] at H
     exact absurd H (by simp)
   ·rw [if_neg c4] at H
    have c4b0 : decide (x5_1 < (l0.length : Int)) = false := decide_eq_false c4
    clear c4
    obtain rfl := Option.some.inj H
    go_wp2
    go_ret
    exact ⟨by first | rfl | (simp [errW_none, errW_some] <;> rfl) | (simp [*, errW_none, errW_some] <;> rfl), by repeat (first | (with_reducible first | exact HB.out | apply below_alloc | apply pw_below_drewN | apply below_drew1 | refine below_set ?_ GE101.out) | exact HB.out)⟩
def wickerref02_texts.l0 : Nat → List ByteArray → List ByteArray → Int → Option (Bool)
 | 0, _, _, _ => none
 | k + 1, x0, x1, x5 => if x5 < (x0.length : Int) then (if 0 ≤ x5 then (if x5 < (x1.length : Int) then (if (rdOf ByteArray.empty x0 x5).toList = (rdOf ByteArray.empty x1 x5).toList then (wickerref02_texts.l0 k x0 x1 (wrap64 (x5 + 1))) else (some false)) else (none)) else (none)) else (some true)
def wickerref02_texts.f (k : Nat) (l0 : List ByteArray) (l1 : List ByteArray) : Option (Bool) := if (l0.length : Int) = (l1.length : Int) then (wickerref02_texts.l0 k l0 l1 0) else (some false)
set_option maxHeartbeats 8000000 in
set_option maxRecDepth 100000 in
theorem wickerref02_texts.calls (k : Nat) (A0 : Option Addr) (c0 : Nat) (l0 : List ByteArray) (A1 : Option Addr) (c1 : Nat) (l1 : List ByteArray) (r : Bool) (w : World) (hr0 : Kd.C Kd.string w A0 l0.length l0) (hc0 : l0.length ≤ c0) (hr1 : Kd.C Kd.string w A1 l1.length l1) (hc1 : l1.length ≤ c1) (h : wickerref02_texts.f k l0 l1 = some r) :
  Calls Tryd.prog 57 #[.slice A0 l0.length c0, .slice A1 l1.length c1] w fun e w' => e = .returned (.bool r) ∧ Drawn0 w w' := by
 have HR0 := Aside0.mk hr0
 have HC0 := Aside0.mk hc0
 clear hr0 hc0
 have HR1 := Aside0.mk hr1
 have HC1 := Aside0.mk hc1
 clear hr1 hc1
 have H : (if (l0.length : Int) = (l1.length : Int) then (wickerref02_texts.l0 k l0 l1 0) else (some false)) = some r := h
 clear h
 by_cases c3 : (l0.length : Int) = (l1.length : Int)
 ·rw [if_pos c3] at H
  have c3b0 : ((l0.length : Int) == (l1.length : Int)) = true := beq_iff_eq.mpr c3
  have c3b1 : ((l0.length : Int) != (l1.length : Int)) = false := bne_eq_false_iff_eq.mpr c3
  have c3b2 : (l0.length == l1.length) = true := by first | simpa using c3 | (simp at c3 ⊢; omega)
  clear c3
  have H' := Aside0.mk H
  clear H
  go_enter Tryd.func57, Tryd.ntmps57
  go_wp2
  repeat (go_quiet (fail); try go_wp2)
  go_loopg [5] k (fun kq v5 w' => ∃ (x5_1 : Int), v5 = .int .i64 x5_1 ∧ Aside0 (wickerref02_texts.l0 kq l0 l1 x5_1 = some r) ∧ Aside0 (kq ≤ k) ∧ Drawn0 w w')
  case atStart => exact ⟨(0), (by first | rfl | (simp; done) | (simp [*]; done)), H', ⟨Nat.le_refl _⟩, by repeat (first | exact Drawn0.refl _ | apply Drawn0.step)⟩
  case round =>
   clear H'
   try clear c1
   try clear p2
   try clear c3
   try clear c3b0
   try clear c3b1
   try clear c3b2
   obtain ⟨x5_1, rfl, HA, HK1, ⟨m1, rfl⟩⟩ := hrel
   cases gk with
   | zero => exact absurd HA.out (by simp [wickerref02_texts.l0])
   | succ k1 =>
    have H := HA.out
    clear HA
    simp only [wickerref02_texts.l0] at H
    by_cases c4 : x5_1 < (l0.length : Int)
    ·rw [if_pos c4] at H
     have c4b0 : decide (x5_1 < (l0.length : Int)) = true := decide_eq_true c4
     clear c4
     by_cases c5 : 0 ≤ x5_1
     ·rw [if_pos c5] at H
      have c5b0 : decide (0 ≤ x5_1) = true := decide_eq_true c5
      clear c5
      by_cases c6 : x5_1 < (l1.length : Int)
      ·rw [if_pos c6] at H
       have c6b0 : decide (x5_1 < (l1.length : Int)) = true := decide_eq_true c6
       clear c6
       by_cases c7 : (rdOf ByteArray.empty l0 x5_1).toList = (rdOf ByteArray.empty l1 x5_1).toList
       ·rw [if_pos c7] at H
        have c7b0 : ((rdOf ByteArray.empty l0 x5_1).toList == (rdOf ByteArray.empty l1 x5_1).toList) = true := beq_iff_eq.mpr c7
        have c7b1 : ((rdOf ByteArray.empty l0 x5_1).toList != (rdOf ByteArray.empty l1 x5_1).toList) = false := bne_eq_false_iff_eq.mpr c7
        clear c7
        have H' := Aside0.mk H
        clear H
        have p101 : 0 ≤ (x5_1 : Int) := of_decide_eq_true (by first | (with_reducible assumption) | assumption)
        have q101 : x5_1 < (l0.length : Int) := of_decide_eq_true (by first | (with_reducible assumption) | assumption)
        obtain ⟨ad101, e101, hx101_0⟩ := Kd.at_string HR0.out x5_1 p101 q101
        cases e101
        replace p101 := eq_true p101
        replace q101 := eq_true q101
        have p102 : 0 ≤ (x5_1 : Int) := of_decide_eq_true (by first | (with_reducible assumption) | assumption)
        have q102 : x5_1 < (l1.length : Int) := of_decide_eq_true (by first | (with_reducible assumption) | assumption)
        obtain ⟨ad102, e102, hx102_0⟩ := Kd.at_string HR1.out x5_1 p102 q102
        cases e102
        replace p102 := eq_true p102
        replace q102 := eq_true q102
        go_wp2
        repeat (go_quiet (fail); try go_wp2)
        go_roundg k1
        case measure => have := HK1.out; omega
        case rel => exact ⟨(wrap64 (x5_1 + 1)), (by first | rfl | (simp; done) | (simp [*]; done)), H', ⟨by have := HK1.out; omega⟩, by repeat (first | exact Drawn0.refl _ | apply Drawn0.step)⟩
       ·rw [if_neg c7] at H
        have c7b0 : ((rdOf ByteArray.empty l0 x5_1).toList == (rdOf ByteArray.empty l1 x5_1).toList) = false := beq_eq_false_iff_ne.mpr c7
        have c7b1 : ((rdOf ByteArray.empty l0 x5_1).toList != (rdOf ByteArray.empty l1 x5_1).toList) = true := bne_iff_ne.mpr c7
        obtain rfl := Option.some.inj H
        have p101 : 0 ≤ (x5_1 : Int) := of_decide_eq_true (by first | (with_reducible assumption) | assumption)
        have q101 : x5_1 < (l0.length : Int) := of_decide_eq_true (by first | (with_reducible assumption) | assumption)
        obtain ⟨ad101, e101, hx101_0⟩ := Kd.at_string HR0.out x5_1 p101 q101
        cases e101
        replace p101 := eq_true p101
        replace q101 := eq_true q101
        have p102 : 0 ≤ (x5_1 : Int) := of_decide_eq_true (by first | (with_reducible assumption) | assumption)
        have q102 : x5_1 < (l1.length : Int) := of_decide_eq_true (by first | (with_reducible assumption) | assumption)
        obtain ⟨ad102, e102, hx102_0⟩ := Kd.at_string HR1.out x5_1 p102 q102
        cases e102
        replace p102 := eq_true p102
        replace q102 := eq_true q102
        go_wp2
        repeat (go_quiet (fail); try go_wp2)
        go_ret
        exact ⟨by first | rfl | (simp; done) | (simp [*]; done) | (exfalso; simp only [beq_iff_eq] at *; omega), by repeat (first | exact Drawn0.refl _ | apply Drawn0.step)⟩
      ·rw [if_neg c6] at H
       exact absurd H (by simp)
     ·rw [if_neg c5] at H
      exact absurd H (by simp)
    ·rw [if_neg c4] at H
     have c4b0 : decide (x5_1 < (l0.length : Int)) = false := decide_eq_false c4
     clear c4
     obtain rfl := Option.some.inj H
     go_wp2
     repeat (go_quiet (fail); try go_wp2)
     go_ret
     exact ⟨by first | rfl | (simp; done) | (simp [*]; done) | (exfalso; simp only [beq_iff_eq] at *; omega), by repeat (first | exact Drawn0.refl _ | apply Drawn0.step)⟩
 ·rw [if_neg c3] at H
  have c3b0 : ((l0.length : Int) == (l1.length : Int)) = false := beq_eq_false_iff_ne.mpr c3
  have c3b1 : ((l0.length : Int) != (l1.length : Int)) = true := bne_iff_ne.mpr c3
  have c3b2 : (l0.length == l1.length) = false := by first | simpa using c3 | (simp at c3 ⊢; omega)
  obtain rfl := Option.some.inj H
  go_enter Tryd.func57, Tryd.ntmps57
  go_wp2
  repeat (go_quiet (fail); try go_wp2)
  go_ret
  exact ⟨by first | rfl | (simp; done) | (simp [*]; done) | (exfalso; simp only [beq_iff_eq] at *; omega), by repeat (first | exact Drawn0.refl _ | apply Drawn0.step)⟩
end Go.Proofs.YtgdcnmpcfoomiaaDoor.G
end
section
set_option linter.unusedVariables false
set_option linter.unusedSimpArgs false
namespace Go.Proofs.YtgdcnmpcfoomiaaDoor.G
open Go Go.RowKit Go.Proofs.YtgdcnmpcfoomiaaDoorW.PrintWords Go.Proofs.YtgdcnmpcfoomiaaDoor.Pure
theorem rdS (l : List GRule) (i : Nat) (h : i < l.length) : rd_T38 (l.map ofR) (i : Int) = ofR l[i] := by
  rw [rd_T38, Int.toNat_natCast, List.getD_eq_getElem?_getD, List.getElem?_eq_getElem (by rw [List.length_map]; exact h)]
  simp
theorem succ64 {i : Nat} (h : i ≤ 1000000000) : wrap64 ((i : Int) + 1) = ((i + 1 : Nat) : Int) := by rw [w64 (by omega) (by omega)]; rfl
theorem same_l0 (a b : List Int) (ha : a.length ≤ 1000000) (hl : a.length = b.length) (x y : Int) : ∀ (d i : Nat), i + d = a.length → Ev (fun k => wickerref02_Same.l0 k (i : Int) x a y b) (decide (a.drop i = b.drop i)) := by
  intro d
  induction d with
  | zero =>
    intro i hi
    refine ev_nowS fun k => ?_
    rw [wickerref02_Same.l0, if_neg (by omega), List.drop_eq_nil_of_le (by omega), List.drop_eq_nil_of_le (by omega)]
    rfl
  | succ d ih =>
    intro i hi
    have h1 : i < a.length := by omega
    have h2 : i < b.length := by omega
    by_cases e : a[i] = b[i]
    · refine Ev.step (fun k => ?_) (Ev.eq (ih (i + 1) (by omega)) ?_)
      · rw [wickerref02_Same.l0, if_pos (by omega), if_pos (by omega), if_pos (by omega), rd_at a i h1, rd_at b i h2, if_pos e, succ64 (by omega)]
      · rw [List.drop_eq_getElem_cons h1, List.drop_eq_getElem_cons h2, decide_eq_decide, List.cons.injEq]
        exact ⟨fun h => ⟨e, h⟩, fun h => h.2⟩
    · refine ev_nowS fun k => ?_
      rw [wickerref02_Same.l0, if_pos (by omega), if_pos (by omega), if_pos (by omega), rd_at a i h1, rd_at b i h2, if_neg e, List.drop_eq_getElem_cons h1, List.drop_eq_getElem_cons h2, decide_eq_false (fun h => e (by injection h))]
theorem same_f (r s : GRule) (hr : r.f1.length ≤ 1000000) (hs : s.f1.length ≤ 1000000) : Ev (fun k => wickerref02_Same.f k r.f0 r.f1 s.f0 s.f1) (decide (r = s)) := by
  have hext : r = s ↔ r.f0 = s.f0 ∧ r.f1 = s.f1 := ⟨fun e => by rw [e]; exact ⟨rfl, rfl⟩, fun h => by cases r; cases s; simp only at h; rw [h.1, h.2]⟩
  unfold wickerref02_Same.f
  by_cases h0 : r.f0 = s.f0
  · refine Ev.pos h0 ?_
    by_cases hl : r.f1.length = s.f1.length
    · refine Ev.step (fun k => ?_) (Ev.eq (same_l0 r.f1 s.f1 hr hl r.f0 s.f0 r.f1.length 0 (by omega)) ?_)
      · rw [wickerref02_Same.j0, if_neg (by simp [hl])]; rfl
      · rw [List.drop_zero, List.drop_zero]; simp [hext, h0]
    · refine ev_nowS fun k => ?_
      rw [wickerref02_Same.j0, if_pos (by rw [bne_iff_ne]; omega)]
      simp [hext, h0]
      intro e; exact hl (by rw [e])
  · refine Ev.neg h0 (ev_nowS fun k => ?_)
    rw [wickerref02_Same.j0, if_pos rfl]
    simp [hext, h0]
def findG (r : GRule) : List GRule → Int → Int
  | [], _ => -1
  | x :: t, i => if x = r then i else findG r t (i + 1)
theorem ruleOk_len {r : GRule} (h : ruleOk r = true) : r.f1.length ≤ 1000000 := by
  simp only [ruleOk, Bool.and_eq_true, decide_eq_true_eq] at h
  exact h.1.2
theorem find_l0 (l : List GRule) (hn : l.length ≤ 1000000) (hok : l.all ruleOk = true) (r : GRule) (hr : r.f1.length ≤ 1000000) : ∀ (d i : Nat), i + d = l.length → Ev (fun k => wickerref02_Find.l0 k (l.map ofR) (i : Int) r.f0 r.f1) (findG r (l.drop i) (i : Int)) := by
  intro d
  induction d with
  | zero =>
    intro i hi
    refine ev_nowS fun k => ?_
    rw [wickerref02_Find.l0, List.length_map, if_neg (by omega), List.drop_eq_nil_of_le (by omega)]; rfl
  | succ d ih =>
    intro i hi
    have h1 : i < l.length := by omega
    have hs := same_f l[i] r (ruleOk_len (List.all_eq_true.1 hok _ (List.getElem_mem _))) hr
    refine Ev.step (f := fun k => (wickerref02_Same.f k l[i].f0 l[i].f1 r.f0 r.f1).bind fun t => if t = true then some (i : Int) else wickerref02_Find.l0 k (l.map ofR) ((i + 1 : Nat) : Int) r.f0 r.f1) (fun k => ?_) (Ev.bind hs ?_)
    · rw [wickerref02_Find.l0, List.length_map, if_pos (by omega), if_pos (by omega), rdS l i h1, succ64 (by omega)]; rfl
    · rw [List.drop_eq_getElem_cons h1, findG]
      by_cases e : l[i] = r
      · rw [if_pos e]; exact Ev.pos (decide_eq_true e) (Ev.now _)
      · rw [if_neg e]; exact Ev.neg (by rw [decide_eq_false e]; simp) (ih (i + 1) (by omega))
theorem find_f (l : List GRule) (hn : l.length ≤ 1000000) (hok : l.all ruleOk = true) (r : GRule) (hr : r.f1.length ≤ 1000000) : Ev (fun k => wickerref02_Find.f k (l.map ofR) r.f0 r.f1) (findG r l 0) := find_l0 l hn hok r hr l.length 0 (by omega)
end Go.Proofs.YtgdcnmpcfoomiaaDoor.G
end
section
namespace Go.Proofs.YtgdcnmpcfoomiaaDoor.G
open Go.RowKit Go.Proofs.YtgdcnmpcfoomiaaDoorW.PrintWords Go.Proofs.YtgdcnmpcfoomiaaDoorW.PrintLast Go.Proofs.YtgdcnmpcfoomiaaDoorW.PrintMore
attribute [local go_sem] max2_int min2_int max_two min_two max_three min_three max_four min_four
attribute [local go_sem] Go.Proofs.YtgdcnmpcfoomiaaDoorOwn.isSome_setCell
set_option linter.unusedVariables false
set_option linter.unusedSimpArgs false
mutual
def wickerref02_Alike.j0 : Nat → Bool → List ByteArray → List ByteArray → Int → List (S38) → List ByteArray → List ByteArray → Int → List (S38) → Option (Bool)
 | 0, _, _, _, _, _, _, _, _, _ => none
 | k + 1, x35, x102000, x102001, x102002, x102003, x103000, x103001, x103002, x103003 => if x35 = true then (some false) else (wickerref02_Alike.l0 k 0 x102000 x102001 x102002 x102003 x103000 x103001 x103002 x103003)
def wickerref02_Alike.l0 : Nat → Int → List ByteArray → List ByteArray → Int → List (S38) → List ByteArray → List ByteArray → Int → List (S38) → Option (Bool)
 | 0, _, _, _, _, _, _, _, _, _ => none
 | k + 1, x5, x102000, x102001, x102002, x102003, x103000, x103001, x103002, x103003 => if x5 < (x102003.length : Int) then (if 0 ≤ x5 then (if x5 < (x103003.length : Int) then ((wickerref02_Same.f k ((rd_T38 x102003 x5).f0) ((rd_T38 x102003 x5).f1) ((rd_T38 x103003 x5).f0) ((rd_T38 x103003 x5).f1)).bind fun t107 => (if t107 = true then (wickerref02_Alike.l0 k (wrap64 (x5 + 1)) x102000 x102001 x102002 x102003 x103000 x103001 x103002 x103003) else (some false))) else (none)) else (none)) else (some true)
end
def wickerref02_Alike.f (k : Nat) (l0_0 : List ByteArray) (l0_1 : List ByteArray) (a0_2 : Int) (l0_3 : List (S38)) (l1_0 : List ByteArray) (l1_1 : List ByteArray) (a1_2 : Int) (l1_3 : List (S38)) : Option (Bool) := if a0_2 = a1_2 then ((wickerref02_texts.f k l0_0 l1_0).bind fun t103 => (if t103 = true then ((wickerref02_texts.f k l0_1 l1_1).bind fun t104 => (if t104 = true then (wickerref02_Alike.j0 k ((l0_3.length : Int) != (l1_3.length : Int)) l0_0 l0_1 a0_2 l0_3 l1_0 l1_1 a1_2 l1_3) else (wickerref02_Alike.j0 k true l0_0 l0_1 a0_2 l0_3 l1_0 l1_1 a1_2 l1_3))) else (wickerref02_Alike.j0 k true l0_0 l0_1 a0_2 l0_3 l1_0 l1_1 a1_2 l1_3))) else (wickerref02_Alike.j0 k true l0_0 l0_1 a0_2 l0_3 l1_0 l1_1 a1_2 l1_3)
def wickerref02_Alike.T6 : Bool × List (List Nat × List Nat) := (true, [([], []), ([0], [0]), ([], []), ([1, 2], [1, 2]), ([3], [3]), ([], []), ([5], [5]), ([], []), ([6, 7], [6, 7]), ([8], [8]), ([4, 9], [4, 9]), ([10], [10])])
def wickerref02_Alike.B6 : List Nat := [0, 1, 0, 7, 15, 0, 32, 0, 224, 480, 1023, 2047]
theorem wickerref02_Alike.tab6 : rtab .any (opsOf Tryd.f25 6) = wickerref02_Alike.T6 := by kernel_rfl
theorem wickerref02_Alike.bits6 : waitsOk wickerref02_Alike.T6.2 wickerref02_Alike.B6 = true := by kernel_rfl
set_option maxHeartbeats 8000000 in
set_option maxRecDepth 100000 in
theorem wickerref02_Alike.calls (k : Nat) (A0_0 : Option Addr) (c0_0 : Nat) (l0_0 : List ByteArray) (A0_1 : Option Addr) (c0_1 : Nat) (l0_1 : List ByteArray) (a0_2 : Int) (A0_3 : Option Addr) (c0_3 : Nat) (l0_3 : List (S38)) (A1_0 : Option Addr) (c1_0 : Nat) (l1_0 : List ByteArray) (A1_1 : Option Addr) (c1_1 : Nat) (l1_1 : List ByteArray) (a1_2 : Int) (A1_3 : Option Addr) (c1_3 : Nat) (l1_3 : List (S38)) (r : Bool) (w : World) (hr0_0 : Kd.C Kd.string w A0_0 l0_0.length l0_0) (hc0_0 : l0_0.length ≤ c0_0) (hr0_1 : Kd.C Kd.string w A0_1 l0_1.length l0_1) (hc0_1 : l0_1.length ≤ c0_1) (hr0_3 : Kd.C k38 w A0_3 l0_3.length l0_3) (hc0_3 : l0_3.length ≤ c0_3) (hr1_0 : Kd.C Kd.string w A1_0 l1_0.length l1_0) (hc1_0 : l1_0.length ≤ c1_0) (hr1_1 : Kd.C Kd.string w A1_1 l1_1.length l1_1) (hc1_1 : l1_1.length ≤ c1_1) (hr1_3 : Kd.C k38 w A1_3 l1_3.length l1_3) (hc1_3 : l1_3.length ≤ c1_3) (h : wickerref02_Alike.f k l0_0 l0_1 a0_2 l0_3 l1_0 l1_1 a1_2 l1_3 = some r) :
  Calls Tryd.prog 25 #[.agg #[.slice A0_0 l0_0.length c0_0, .slice A0_1 l0_1.length c0_1, .int .i64 a0_2, .slice A0_3 l0_3.length c0_3], .agg #[.slice A1_0 l1_0.length c1_0, .slice A1_1 l1_1.length c1_1, .int .i64 a1_2, .slice A1_3 l1_3.length c1_3]] w fun e w' => e = .returned (.bool r) ∧ Below w.heap.size w w' := by
 have hu30 := Tryd.underlying30
 have hu38 := Tryd.underlying38
 have HR0_0 := Aside0.mk hr0_0
 have HC0_0 := Aside0.mk hc0_0
 clear hr0_0 hc0_0
 have HR0_1 := Aside0.mk hr0_1
 have HC0_1 := Aside0.mk hc0_1
 clear hr0_1 hc0_1
 have HR0_3 := Aside0.mk hr0_3
 have HC0_3 := Aside0.mk hc0_3
 clear hr0_3 hc0_3
 have HR1_0 := Aside0.mk hr1_0
 have HC1_0 := Aside0.mk hc1_0
 clear hr1_0 hc1_0
 have HR1_1 := Aside0.mk hr1_1
 have HC1_1 := Aside0.mk hc1_1
 clear hr1_1 hc1_1
 have HR1_3 := Aside0.mk hr1_3
 have HC1_3 := Aside0.mk hc1_3
 clear hr1_3 hc1_3
 have HB := Aside0.mk (Below.refl w.heap.size w)
 have H : (if a0_2 = a1_2 then ((wickerref02_texts.f k l0_0 l1_0).bind fun t103 => (if t103 = true then ((wickerref02_texts.f k l0_1 l1_1).bind fun t104 => (if t104 = true then (wickerref02_Alike.j0 k ((l0_3.length : Int) != (l1_3.length : Int)) l0_0 l0_1 a0_2 l0_3 l1_0 l1_1 a1_2 l1_3) else (wickerref02_Alike.j0 k true l0_0 l0_1 a0_2 l0_3 l1_0 l1_1 a1_2 l1_3))) else (wickerref02_Alike.j0 k true l0_0 l0_1 a0_2 l0_3 l1_0 l1_1 a1_2 l1_3))) else (wickerref02_Alike.j0 k true l0_0 l0_1 a0_2 l0_3 l1_0 l1_1 a1_2 l1_3)) = some r := h
 clear h
 have HC3 := Aside0.mk H
 clear H
 go_enter Tryd.func25, Tryd.ntmps25
 go_upto_region 1 with (first | ((with_reducible refine gate_dst (N := 2) rfl ?_); (try (refine gate_guard (by rfl) ?_; dsimp only)); refine box_event ?hg (N := 2) ?hd (cs := #[.slice A0_0 l0_0.length c0_0, .slice A0_1 l0_1.length c0_1, .int .i64 a0_2, .slice A0_3 l0_3.length c0_3]) (t := 30) ?hr ?_; (case hd => rfl); (case hg => rfl); (case hr => first | (go_simp; done) | (go_simp; rfl)); intro gb101 hg w4 hbox hb; have n0_ := Aside0.mk (below_step (by repeat (first | (with_reducible first | exact HB.out | apply below_alloc | apply pw_below_drewN | apply below_drew1) | exact HB.out)) hb); have n1_ := Aside0.mk (hbox); have n2_ := Aside0.mk ((by rw [hg]; exact (below_size (by repeat (first | (with_reducible first | exact HB.out | apply below_alloc | apply pw_below_drewN | apply below_drew1) | exact HB.out))) : w.heap.size ≤ gb101)); have n3_ := Aside0.mk ((by rw [hg]; exact (below_size (by repeat (first | (with_reducible first | exact HB.out | apply below_alloc | apply pw_below_drewN | apply below_drew1) | exact HB.out))) : w.heap.size ≤ gb101)); clear HB; have HB := n0_; have BK101 := n1_; have GW101 := n2_; have GE101 := n3_; clear n0_ n1_ n2_ n3_; clear hb hbox hg) | ((with_reducible refine gate_dst (N := 3) rfl ?_); (try (refine gate_guard (by rfl) ?_; dsimp only)); refine box_event ?hg (N := 3) ?hd (cs := #[.slice A1_0 l1_0.length c1_0, .slice A1_1 l1_1.length c1_1, .int .i64 a1_2, .slice A1_3 l1_3.length c1_3]) (t := 30) ?hr ?_; (case hd => rfl); (case hg => rfl); (case hr => first | (go_simp; done) | (go_simp; rfl)); intro gb102 hg w5 hbox hb; have n0_ := Aside0.mk (blk_below (g := gb101) (o := .cells #[.slice A0_0 l0_0.length c0_0, .slice A0_1 l0_1.length c0_1, .int .i64 a0_2, .slice A0_3 l0_3.length c0_3] 30 (0, 0)) (by (with_reducible repeat (first | refine blk_drewN ?_ _ | refine blk_drew ?_ | refine blk_alloc ?_ _)); exact BK101.out) hb); have n1_ := Aside0.mk (below_step (by repeat (first | (with_reducible first | exact HB.out | apply below_alloc | apply pw_below_drewN | apply below_drew1 | refine below_set ?_ GE101.out) | exact HB.out)) hb); have n2_ := Aside0.mk (hbox); have n3_ := Aside0.mk ((by rw [hg]; exact (below_size (by repeat (first | (with_reducible first | exact HB.out | apply below_alloc | apply pw_below_drewN | apply below_drew1 | refine below_set ?_ GE101.out) | exact HB.out))) : w.heap.size ≤ gb102)); have n4_ := Aside0.mk ((by rw [hg]; exact (below_size (by repeat (first | (with_reducible first | exact HB.out | apply below_alloc | apply pw_below_drewN | apply below_drew1 | refine below_set ?_ GE101.out) | exact HB.out))) : w.heap.size ≤ gb102)); have n5_ := Aside0.mk ((by rw [hg]; exact Nat.ne_of_lt (blk_lt (g := gb101) (o := .cells #[.slice A0_0 l0_0.length c0_0, .slice A0_1 l0_1.length c0_1, .int .i64 a0_2, .slice A0_3 l0_3.length c0_3] 30 (0, 0)) (by (with_reducible repeat (first | refine blk_drewN ?_ _ | refine blk_drew ?_ | refine blk_alloc ?_ _)); exact BK101.out)) : gb101 ≠ gb102)); have n6_ := Aside0.mk ((by rw [hg]; exact Nat.ne_of_gt (blk_lt (g := gb101) (o := .cells #[.slice A0_0 l0_0.length c0_0, .slice A0_1 l0_1.length c0_1, .int .i64 a0_2, .slice A0_3 l0_3.length c0_3] 30 (0, 0)) (by (with_reducible repeat (first | refine blk_drewN ?_ _ | refine blk_drew ?_ | refine blk_alloc ?_ _)); exact BK101.out)) : gb102 ≠ gb101)); clear BK101; clear HB; have BK101 := n0_; have HB := n1_; have BK102 := n2_; have GW102 := n3_; have GE102 := n4_; have NB101_102 := n5_; have NB102_101 := n6_; clear n0_ n1_ n2_ n3_ n4_ n5_ n6_; clear hb hbox hg))
 (try simp only [Act.put, List.setIfInBounds_toArray, List.set_cons_zero, List.set_cons_succ])
 go_cut [35] (fun v35 wc => ∃ (kq : Nat) (x35_2 : Bool), v35 = .bool x35_2 ∧ Aside0 (wickerref02_Alike.j0 kq x35_2 l0_0 l0_1 a0_2 l0_3 l1_0 l1_1 a1_2 l1_3 = some r) ∧ Aside0 (kq ≤ k) ∧ Aside0 (wc.heap[gb101]? = some (.cells #[(.slice A0_0 l0_0.length c0_0), (.slice A0_1 l0_1.length c0_1), .int .i64 a0_2, (.slice A0_3 l0_3.length c0_3)] 30 (0, 0))) ∧ Aside0 (wc.heap[gb102]? = some (.cells #[(.slice A1_0 l1_0.length c1_0), (.slice A1_1 l1_1.length c1_1), .int .i64 a1_2, (.slice A1_3 l1_3.length c1_3)] 30 (0, 0))) ∧ Aside0 (Below w.heap.size w wc))
 case first =>
  have H := HC3.out
  clear HC3
  by_cases c6 : a0_2 = a1_2
  ·rw [if_pos c6] at H
   have c6b0 : (a0_2 == a1_2) = true := beq_iff_eq.mpr c6
   have c6b1 : (a0_2 != a1_2) = false := bne_eq_false_iff_eq.mpr c6
   clear c6
   (first | rw [c6b0] | (simp only [i64_w, i32_w]; rw [c6b0]) | skip)
   replace H := Option.bind_eq_some_iff.mp H
   obtain ⟨t103, A70, H⟩ := H
   replace H : (if t103 = true then ((wickerref02_texts.f k l0_1 l1_1).bind fun t104 => (if t104 = true then (wickerref02_Alike.j0 k ((l0_3.length : Int) != (l1_3.length : Int)) l0_0 l0_1 a0_2 l0_3 l1_0 l1_1 a1_2 l1_3) else (wickerref02_Alike.j0 k true l0_0 l0_1 a0_2 l0_3 l1_0 l1_1 a1_2 l1_3))) else (wickerref02_Alike.j0 k true l0_0 l0_1 a0_2 l0_3 l1_0 l1_1 a1_2 l1_3)) = some r := H
   have A7 := Aside0.mk A70
   clear A70
   by_cases c8 : t103 = true
   ·subst c8
    have H1 : ((wickerref02_texts.f k l0_1 l1_1).bind fun t104 => (if t104 = true then (wickerref02_Alike.j0 k ((l0_3.length : Int) != (l1_3.length : Int)) l0_0 l0_1 a0_2 l0_3 l1_0 l1_1 a1_2 l1_3) else (wickerref02_Alike.j0 k true l0_0 l0_1 a0_2 l0_3 l1_0 l1_1 a1_2 l1_3))) = some r := by rw [if_pos rfl] at H; exact H
    clear H
    have H := H1
    clear H1
    replace H := Option.bind_eq_some_iff.mp H
    obtain ⟨t104, A90, H⟩ := H
    replace H : (if t104 = true then (wickerref02_Alike.j0 k ((l0_3.length : Int) != (l1_3.length : Int)) l0_0 l0_1 a0_2 l0_3 l1_0 l1_1 a1_2 l1_3) else (wickerref02_Alike.j0 k true l0_0 l0_1 a0_2 l0_3 l1_0 l1_1 a1_2 l1_3)) = some r := H
    have A9 := Aside0.mk A90
    clear A90
    by_cases c10 : t104 = true
    ·subst c10
     have H1 : (wickerref02_Alike.j0 k ((l0_3.length : Int) != (l1_3.length : Int)) l0_0 l0_1 a0_2 l0_3 l1_0 l1_1 a1_2 l1_3) = some r := by rw [if_pos rfl] at H; exact H
     clear H
     have H := H1
     clear H1
     have H' := Aside0.mk H
     clear H
     have hnb11 := NB101_102.out
     have hnc11 := NB102_101.out
     have hcz12_0 : w5.cell? ⟨gb101, 0, none⟩ = some (.slice A0_0 l0_0.length c0_0) := (blk_cell BK101.out 0).trans rfl
     have hcz12_1 : w5.cell? ⟨gb101, 1, none⟩ = some (.slice A0_1 l0_1.length c0_1) := (blk_cell BK101.out 1).trans rfl
     have hcz12_2 : w5.cell? ⟨gb101, 2, none⟩ = some (.int .i64 a0_2) := (blk_cell BK101.out 2).trans rfl
     have hcz12_3 : w5.cell? ⟨gb101, 3, none⟩ = some (.slice A0_3 l0_3.length c0_3) := (blk_cell BK101.out 3).trans rfl
     have hfz12_0 := blk_frozen BK101.out 0
     have hfz12_1 := blk_frozen BK101.out 1
     have hfz12_2 := blk_frozen BK101.out 2
     have hfz12_3 := blk_frozen BK101.out 3
     have hcz13_0 : w5.cell? ⟨gb102, 0, none⟩ = some (.slice A1_0 l1_0.length c1_0) := (blk_cell BK102.out 0).trans rfl
     have hcz13_1 : w5.cell? ⟨gb102, 1, none⟩ = some (.slice A1_1 l1_1.length c1_1) := (blk_cell BK102.out 1).trans rfl
     have hcz13_2 : w5.cell? ⟨gb102, 2, none⟩ = some (.int .i64 a1_2) := (blk_cell BK102.out 2).trans rfl
     have hcz13_3 : w5.cell? ⟨gb102, 3, none⟩ = some (.slice A1_3 l1_3.length c1_3) := (blk_cell BK102.out 3).trans rfl
     have hfz13_0 := blk_frozen BK102.out 0
     have hfz13_1 := blk_frozen BK102.out 1
     have hfz13_2 := blk_frozen BK102.out 2
     have hfz13_3 := blk_frozen BK102.out 3
     go_wp2_with (first | (go_at_call 57; (with_reducible refine (wickerref02_texts.calls k _ _ l0_0 _ _ l1_0 true _ ?side1 ?side2 ?side3 ?side4 A7.out).mono ?_); (case side1 => repeat (first | exact (Kd.C_below HR0_0.out HB.out) | (with_reducible refine Kd.C_alloc ?_ _) | (with_reducible refine Kd.C_drewN ?_ _) | (with_reducible refine Kd.C_drew ?_))); (case side2 => exact HC0_0.out); (case side3 => repeat (first | exact (Kd.C_below HR1_0.out HB.out) | (with_reducible refine Kd.C_alloc ?_ _) | (with_reducible refine Kd.C_drewN ?_ _) | (with_reducible refine Kd.C_drew ?_))); (case side4 => exact HC1_0.out); rintro e w' ⟨rfl, ⟨nd, rfl⟩⟩) | (go_at_call 57; (with_reducible refine (wickerref02_texts.calls k _ _ l0_1 _ _ l1_1 true _ ?side1 ?side2 ?side3 ?side4 A9.out).mono ?_); (case side1 => repeat (first | exact (Kd.C_below HR0_1.out (by repeat (first | (with_reducible first | exact HB.out | apply below_alloc | apply pw_below_drewN | apply below_drew1 | refine below_set ?_ GE101.out | refine below_set ?_ GE102.out) | exact HB.out))) | (with_reducible refine Kd.C_alloc ?_ _) | (with_reducible refine Kd.C_drewN ?_ _) | (with_reducible refine Kd.C_drew ?_))); (case side2 => exact HC0_1.out); (case side3 => repeat (first | exact (Kd.C_below HR1_1.out (by repeat (first | (with_reducible first | exact HB.out | apply below_alloc | apply pw_below_drewN | apply below_drew1 | refine below_set ?_ GE101.out | refine below_set ?_ GE102.out) | exact HB.out))) | (with_reducible refine Kd.C_alloc ?_ _) | (with_reducible refine Kd.C_drewN ?_ _) | (with_reducible refine Kd.C_drew ?_))); (case side4 => exact HC1_1.out); rintro e w' ⟨rfl, ⟨nd, rfl⟩⟩))
     go_meet
     case rel => exact ⟨_, (((l0_3.length : Int) != (l1_3.length : Int))), (by first | rfl | (simp; done) | (simp [*]; done)), H', ⟨by first | omega | exact Nat.le_refl _⟩, ⟨by (with_reducible repeat (first | refine blk_drewN ?_ _ | refine blk_drew ?_ | refine blk_alloc ?_ _)); exact BK101.out⟩, ⟨by (with_reducible repeat (first | refine blk_drewN ?_ _ | refine blk_drew ?_ | refine blk_alloc ?_ _)); exact BK102.out⟩, ⟨by repeat (first | (with_reducible first | exact HB.out | apply below_alloc | apply pw_below_drewN | apply below_drew1 | refine below_set ?_ GE101.out | refine below_set ?_ GE102.out) | exact HB.out)⟩⟩
    ·replace c10 := Bool.eq_false_iff.mpr c10
     subst c10
     have H1 : (wickerref02_Alike.j0 k true l0_0 l0_1 a0_2 l0_3 l1_0 l1_1 a1_2 l1_3) = some r := by rw [if_neg (show ¬ (false = true) by decide)] at H; exact H
     clear H
     have H := H1
     clear H1
     have H' := Aside0.mk H
     clear H
     have hnb14 := NB101_102.out
     have hnc14 := NB102_101.out
     have hcz15_0 : w5.cell? ⟨gb101, 0, none⟩ = some (.slice A0_0 l0_0.length c0_0) := (blk_cell BK101.out 0).trans rfl
     have hcz15_1 : w5.cell? ⟨gb101, 1, none⟩ = some (.slice A0_1 l0_1.length c0_1) := (blk_cell BK101.out 1).trans rfl
     have hcz15_2 : w5.cell? ⟨gb101, 2, none⟩ = some (.int .i64 a0_2) := (blk_cell BK101.out 2).trans rfl
     have hcz15_3 : w5.cell? ⟨gb101, 3, none⟩ = some (.slice A0_3 l0_3.length c0_3) := (blk_cell BK101.out 3).trans rfl
     have hfz15_0 := blk_frozen BK101.out 0
     have hfz15_1 := blk_frozen BK101.out 1
     have hfz15_2 := blk_frozen BK101.out 2
     have hfz15_3 := blk_frozen BK101.out 3
     have hcz16_0 : w5.cell? ⟨gb102, 0, none⟩ = some (.slice A1_0 l1_0.length c1_0) := (blk_cell BK102.out 0).trans rfl
     have hcz16_1 : w5.cell? ⟨gb102, 1, none⟩ = some (.slice A1_1 l1_1.length c1_1) := (blk_cell BK102.out 1).trans rfl
     have hcz16_2 : w5.cell? ⟨gb102, 2, none⟩ = some (.int .i64 a1_2) := (blk_cell BK102.out 2).trans rfl
     have hcz16_3 : w5.cell? ⟨gb102, 3, none⟩ = some (.slice A1_3 l1_3.length c1_3) := (blk_cell BK102.out 3).trans rfl
     have hfz16_0 := blk_frozen BK102.out 0
     have hfz16_1 := blk_frozen BK102.out 1
     have hfz16_2 := blk_frozen BK102.out 2
     have hfz16_3 := blk_frozen BK102.out 3
     go_wp2_with (first | (go_at_call 57; (with_reducible refine (wickerref02_texts.calls k _ _ l0_0 _ _ l1_0 true _ ?side1 ?side2 ?side3 ?side4 A7.out).mono ?_); (case side1 => repeat (first | exact (Kd.C_below HR0_0.out HB.out) | (with_reducible refine Kd.C_alloc ?_ _) | (with_reducible refine Kd.C_drewN ?_ _) | (with_reducible refine Kd.C_drew ?_))); (case side2 => exact HC0_0.out); (case side3 => repeat (first | exact (Kd.C_below HR1_0.out HB.out) | (with_reducible refine Kd.C_alloc ?_ _) | (with_reducible refine Kd.C_drewN ?_ _) | (with_reducible refine Kd.C_drew ?_))); (case side4 => exact HC1_0.out); rintro e w' ⟨rfl, ⟨nd, rfl⟩⟩) | (go_at_call 57; (with_reducible refine (wickerref02_texts.calls k _ _ l0_1 _ _ l1_1 false _ ?side1 ?side2 ?side3 ?side4 A9.out).mono ?_); (case side1 => repeat (first | exact (Kd.C_below HR0_1.out (by repeat (first | (with_reducible first | exact HB.out | apply below_alloc | apply pw_below_drewN | apply below_drew1 | refine below_set ?_ GE101.out | refine below_set ?_ GE102.out) | exact HB.out))) | (with_reducible refine Kd.C_alloc ?_ _) | (with_reducible refine Kd.C_drewN ?_ _) | (with_reducible refine Kd.C_drew ?_))); (case side2 => exact HC0_1.out); (case side3 => repeat (first | exact (Kd.C_below HR1_1.out (by repeat (first | (with_reducible first | exact HB.out | apply below_alloc | apply pw_below_drewN | apply below_drew1 | refine below_set ?_ GE101.out | refine below_set ?_ GE102.out) | exact HB.out))) | (with_reducible refine Kd.C_alloc ?_ _) | (with_reducible refine Kd.C_drewN ?_ _) | (with_reducible refine Kd.C_drew ?_))); (case side4 => exact HC1_1.out); rintro e w' ⟨rfl, ⟨nd, rfl⟩⟩))
     go_meet
     case rel => exact ⟨_, (true), (by first | rfl | (simp; done) | (simp [*]; done)), H', ⟨by first | omega | exact Nat.le_refl _⟩, ⟨by (with_reducible repeat (first | refine blk_drewN ?_ _ | refine blk_drew ?_ | refine blk_alloc ?_ _)); exact BK101.out⟩, ⟨by (with_reducible repeat (first | refine blk_drewN ?_ _ | refine blk_drew ?_ | refine blk_alloc ?_ _)); exact BK102.out⟩, ⟨by repeat (first | (with_reducible first | exact HB.out | apply below_alloc | apply pw_below_drewN | apply below_drew1 | refine below_set ?_ GE101.out | refine below_set ?_ GE102.out) | exact HB.out)⟩⟩
   ·replace c8 := Bool.eq_false_iff.mpr c8
    subst c8
    have H1 : (wickerref02_Alike.j0 k true l0_0 l0_1 a0_2 l0_3 l1_0 l1_1 a1_2 l1_3) = some r := by rw [if_neg (show ¬ (false = true) by decide)] at H; exact H
    clear H
    have H := H1
    clear H1
    have H' := Aside0.mk H
    clear H
    have hnb17 := NB101_102.out
    have hnc17 := NB102_101.out
    have hcz18_0 : w5.cell? ⟨gb101, 0, none⟩ = some (.slice A0_0 l0_0.length c0_0) := (blk_cell BK101.out 0).trans rfl
    have hcz18_1 : w5.cell? ⟨gb101, 1, none⟩ = some (.slice A0_1 l0_1.length c0_1) := (blk_cell BK101.out 1).trans rfl
    have hcz18_2 : w5.cell? ⟨gb101, 2, none⟩ = some (.int .i64 a0_2) := (blk_cell BK101.out 2).trans rfl
    have hcz18_3 : w5.cell? ⟨gb101, 3, none⟩ = some (.slice A0_3 l0_3.length c0_3) := (blk_cell BK101.out 3).trans rfl
    have hfz18_0 := blk_frozen BK101.out 0
    have hfz18_1 := blk_frozen BK101.out 1
    have hfz18_2 := blk_frozen BK101.out 2
    have hfz18_3 := blk_frozen BK101.out 3
    have hcz19_0 : w5.cell? ⟨gb102, 0, none⟩ = some (.slice A1_0 l1_0.length c1_0) := (blk_cell BK102.out 0).trans rfl
    have hcz19_1 : w5.cell? ⟨gb102, 1, none⟩ = some (.slice A1_1 l1_1.length c1_1) := (blk_cell BK102.out 1).trans rfl
    have hcz19_2 : w5.cell? ⟨gb102, 2, none⟩ = some (.int .i64 a1_2) := (blk_cell BK102.out 2).trans rfl
    have hcz19_3 : w5.cell? ⟨gb102, 3, none⟩ = some (.slice A1_3 l1_3.length c1_3) := (blk_cell BK102.out 3).trans rfl
    have hfz19_0 := blk_frozen BK102.out 0
    have hfz19_1 := blk_frozen BK102.out 1
    have hfz19_2 := blk_frozen BK102.out 2
    have hfz19_3 := blk_frozen BK102.out 3
    go_wp2_with (first | (go_at_call 57; (with_reducible refine (wickerref02_texts.calls k _ _ l0_0 _ _ l1_0 false _ ?side1 ?side2 ?side3 ?side4 A7.out).mono ?_); (case side1 => repeat (first | exact (Kd.C_below HR0_0.out HB.out) | (with_reducible refine Kd.C_alloc ?_ _) | (with_reducible refine Kd.C_drewN ?_ _) | (with_reducible refine Kd.C_drew ?_))); (case side2 => exact HC0_0.out); (case side3 => repeat (first | exact (Kd.C_below HR1_0.out HB.out) | (with_reducible refine Kd.C_alloc ?_ _) | (with_reducible refine Kd.C_drewN ?_ _) | (with_reducible refine Kd.C_drew ?_))); (case side4 => exact HC1_0.out); rintro e w' ⟨rfl, ⟨nd, rfl⟩⟩))
    go_meet
    case rel => exact ⟨_, (true), (by first | rfl | (simp; done) | (simp [*]; done)), H', ⟨by first | omega | exact Nat.le_refl _⟩, ⟨by (with_reducible repeat (first | refine blk_drewN ?_ _ | refine blk_drew ?_ | refine blk_alloc ?_ _)); exact BK101.out⟩, ⟨by (with_reducible repeat (first | refine blk_drewN ?_ _ | refine blk_drew ?_ | refine blk_alloc ?_ _)); exact BK102.out⟩, ⟨by repeat (first | (with_reducible first | exact HB.out | apply below_alloc | apply pw_below_drewN | apply below_drew1 | refine below_set ?_ GE101.out | refine below_set ?_ GE102.out) | exact HB.out)⟩⟩
  ·rw [if_neg c6] at H
   have c6b0 : (a0_2 == a1_2) = false := beq_eq_false_iff_ne.mpr c6
   have c6b1 : (a0_2 != a1_2) = true := bne_iff_ne.mpr c6
   (first | rw [c6b0] | (simp only [i64_w, i32_w]; rw [c6b0]) | skip)
   have H' := Aside0.mk H
   clear H
   have hnb20 := NB101_102.out
   have hnc20 := NB102_101.out
   have hcz21_0 : w5.cell? ⟨gb101, 0, none⟩ = some (.slice A0_0 l0_0.length c0_0) := (blk_cell BK101.out 0).trans rfl
   have hcz21_1 : w5.cell? ⟨gb101, 1, none⟩ = some (.slice A0_1 l0_1.length c0_1) := (blk_cell BK101.out 1).trans rfl
   have hcz21_2 : w5.cell? ⟨gb101, 2, none⟩ = some (.int .i64 a0_2) := (blk_cell BK101.out 2).trans rfl
   have hcz21_3 : w5.cell? ⟨gb101, 3, none⟩ = some (.slice A0_3 l0_3.length c0_3) := (blk_cell BK101.out 3).trans rfl
   have hfz21_0 := blk_frozen BK101.out 0
   have hfz21_1 := blk_frozen BK101.out 1
   have hfz21_2 := blk_frozen BK101.out 2
   have hfz21_3 := blk_frozen BK101.out 3
   have hcz22_0 : w5.cell? ⟨gb102, 0, none⟩ = some (.slice A1_0 l1_0.length c1_0) := (blk_cell BK102.out 0).trans rfl
   have hcz22_1 : w5.cell? ⟨gb102, 1, none⟩ = some (.slice A1_1 l1_1.length c1_1) := (blk_cell BK102.out 1).trans rfl
   have hcz22_2 : w5.cell? ⟨gb102, 2, none⟩ = some (.int .i64 a1_2) := (blk_cell BK102.out 2).trans rfl
   have hcz22_3 : w5.cell? ⟨gb102, 3, none⟩ = some (.slice A1_3 l1_3.length c1_3) := (blk_cell BK102.out 3).trans rfl
   have hfz22_0 := blk_frozen BK102.out 0
   have hfz22_1 := blk_frozen BK102.out 1
   have hfz22_2 := blk_frozen BK102.out 2
   have hfz22_3 := blk_frozen BK102.out 3
   go_wp2
   go_meet
   case rel => exact ⟨_, (true), (by first | rfl | (simp; done) | (simp [*]; done)), H', ⟨by first | omega | exact Nat.le_refl _⟩, ⟨by (with_reducible repeat (first | refine blk_drewN ?_ _ | refine blk_drew ?_ | refine blk_alloc ?_ _)); exact BK101.out⟩, ⟨by (with_reducible repeat (first | refine blk_drewN ?_ _ | refine blk_drew ?_ | refine blk_alloc ?_ _)); exact BK102.out⟩, ⟨by repeat (first | (with_reducible first | exact HB.out | apply below_alloc | apply pw_below_drewN | apply below_drew1 | refine below_set ?_ GE101.out | refine below_set ?_ GE102.out) | exact HB.out)⟩⟩
 case rest =>
  clear HC3
  try clear c1
  try clear c2
  try clear p2
  try clear c6
  try clear c6b0
  try clear c6b1
  try clear c8
  try clear c10
  try clear c11
  try clear c14
  try clear c17
  try clear c20
  try clear hcz12_0
  try clear hcz12_1
  try clear hcz12_2
  try clear hcz12_3
  try clear hcz13_0
  try clear hcz13_1
  try clear hcz13_2
  try clear hcz13_3
  try clear hcz15_0
  try clear hcz15_1
  try clear hcz15_2
  try clear hcz15_3
  try clear hcz16_0
  try clear hcz16_1
  try clear hcz16_2
  try clear hcz16_3
  try clear hcz18_0
  try clear hcz18_1
  try clear hcz18_2
  try clear hcz18_3
  try clear hcz19_0
  try clear hcz19_1
  try clear hcz19_2
  try clear hcz19_3
  try clear hcz21_0
  try clear hcz21_1
  try clear hcz21_2
  try clear hcz21_3
  try clear hcz22_0
  try clear hcz22_1
  try clear hcz22_2
  try clear hcz22_3
  try clear hfz12_0
  try clear hfz12_1
  try clear hfz12_2
  try clear hfz12_3
  try clear hfz13_0
  try clear hfz13_1
  try clear hfz13_2
  try clear hfz13_3
  try clear hfz15_0
  try clear hfz15_1
  try clear hfz15_2
  try clear hfz15_3
  try clear hfz16_0
  try clear hfz16_1
  try clear hfz16_2
  try clear hfz16_3
  try clear hfz18_0
  try clear hfz18_1
  try clear hfz18_2
  try clear hfz18_3
  try clear hfz19_0
  try clear hfz19_1
  try clear hfz19_2
  try clear hfz19_3
  try clear hfz21_0
  try clear hfz21_1
  try clear hfz21_2
  try clear hfz21_3
  try clear hfz22_0
  try clear hfz22_1
  try clear hfz22_2
  try clear hfz22_3
  obtain ⟨kq, x35_2, rfl, HA, HJ2, BK101, BK102, HB⟩ := hcut
  cases kq with
  | zero => exact absurd HA.out (by simp [wickerref02_Alike.j0])
  | succ kj2 =>
   have H := HA.out
   clear HA
   simp only [wickerref02_Alike.j0] at H
   by_cases c23 : x35_2 = true
   ·subst c23
    have H1 : (some false) = some r := by rw [if_pos rfl] at H; exact H
    clear H
    have H := H1
    clear H1
    obtain rfl := Option.some.inj H
    go_wp2
    go_ret
    exact ⟨by first | rfl | (simp [errW_none, errW_some] <;> rfl) | (simp [*, errW_none, errW_some] <;> rfl), by repeat (first | (with_reducible first | exact HB.out | apply below_alloc | apply pw_below_drewN | apply below_drew1 | refine below_set ?_ GE101.out | refine below_set ?_ GE102.out) | exact HB.out)⟩
   ·replace c23 := Bool.eq_false_iff.mpr c23
    subst c23
    have H1 : (wickerref02_Alike.l0 kj2 0 l0_0 l0_1 a0_2 l0_3 l1_0 l1_1 a1_2 l1_3) = some r := by rw [if_neg (show ¬ (false = true) by decide)] at H; exact H
    clear H
    have H := H1
    clear H1
    have H' := Aside0.mk H
    clear H
    go_wp2
    go_loopg [5] kj2 (fun kq v5 w' => ∃ (x5_2 : Int), v5 = .int .i64 x5_2 ∧ Aside0 (wickerref02_Alike.l0 kq x5_2 l0_0 l0_1 a0_2 l0_3 l1_0 l1_1 a1_2 l1_3 = some r) ∧ Aside0 (kq ≤ kj2) ∧ Aside0 (w'.heap[gb101]? = some (.cells #[(.slice A0_0 l0_0.length c0_0), (.slice A0_1 l0_1.length c0_1), .int .i64 a0_2, (.slice A0_3 l0_3.length c0_3)] 30 (0, 0))) ∧ Aside0 (w'.heap[gb102]? = some (.cells #[(.slice A1_0 l1_0.length c1_0), (.slice A1_1 l1_1.length c1_1), .int .i64 a1_2, (.slice A1_3 l1_3.length c1_3)] 30 (0, 0))) ∧ Aside0 (Below w.heap.size w w'))
    case atStart => exact ⟨(0), (by first | rfl | (simp; done) | (simp [*]; done)), H', ⟨Nat.le_refl _⟩, ⟨by (with_reducible repeat (first | refine blk_drewN ?_ _ | refine blk_drew ?_ | refine blk_alloc ?_ _)); exact BK101.out⟩, ⟨by (with_reducible repeat (first | refine blk_drewN ?_ _ | refine blk_drew ?_ | refine blk_alloc ?_ _)); exact BK102.out⟩, ⟨by repeat (first | (with_reducible first | exact HB.out | apply below_alloc | apply pw_below_drewN | apply below_drew1 | refine below_set ?_ GE101.out | refine below_set ?_ GE102.out) | exact HB.out)⟩⟩
    case round =>
     clear H'
     try clear c1
     try clear c2
     try clear p2
     try clear c6
     try clear c6b0
     try clear c6b1
     try clear c8
     try clear c10
     try clear c11
     try clear c14
     try clear c17
     try clear c20
     try clear c23
     try clear hcz12_0
     try clear hcz12_1
     try clear hcz12_2
     try clear hcz12_3
     try clear hcz13_0
     try clear hcz13_1
     try clear hcz13_2
     try clear hcz13_3
     try clear hcz15_0
     try clear hcz15_1
     try clear hcz15_2
     try clear hcz15_3
     try clear hcz16_0
     try clear hcz16_1
     try clear hcz16_2
     try clear hcz16_3
     try clear hcz18_0
     try clear hcz18_1
     try clear hcz18_2
     try clear hcz18_3
     try clear hcz19_0
     try clear hcz19_1
     try clear hcz19_2
     try clear hcz19_3
     try clear hcz21_0
     try clear hcz21_1
     try clear hcz21_2
     try clear hcz21_3
     try clear hcz22_0
     try clear hcz22_1
     try clear hcz22_2
     try clear hcz22_3
     try clear hfz12_0
     try clear hfz12_1
     try clear hfz12_2
     try clear hfz12_3
     try clear hfz13_0
     try clear hfz13_1
     try clear hfz13_2
     try clear hfz13_3
     try clear hfz15_0
     try clear hfz15_1
     try clear hfz15_2
     try clear hfz15_3
     try clear hfz16_0
     try clear hfz16_1
     try clear hfz16_2
     try clear hfz16_3
     try clear hfz18_0
     try clear hfz18_1
     try clear hfz18_2
     try clear hfz18_3
     try clear hfz19_0
     try clear hfz19_1
     try clear hfz19_2
     try clear hfz19_3
     try clear hfz21_0
     try clear hfz21_1
     try clear hfz21_2
     try clear hfz21_3
     try clear hfz22_0
     try clear hfz22_1
     try clear hfz22_2
     try clear hfz22_3
     try clear p2
     obtain ⟨x5_2, rfl, HA, HK2, BK101, BK102, HB⟩ := hrel
     cases gk with
     | zero => exact absurd HA.out (by simp [wickerref02_Alike.l0])
     | succ k2 =>
      have H := HA.out
      clear HA
      simp only [wickerref02_Alike.l0] at H
      by_cases c24 : x5_2 < (l0_3.length : Int)
      ·rw [if_pos c24] at H
       have c24b0 : decide (x5_2 < (l0_3.length : Int)) = true := decide_eq_true c24
       clear c24
       by_cases c25 : 0 ≤ x5_2
       ·rw [if_pos c25] at H
        have c25b0 : decide (0 ≤ x5_2) = true := decide_eq_true c25
        clear c25
        by_cases c26 : x5_2 < (l1_3.length : Int)
        ·rw [if_pos c26] at H
         have c26b0 : decide (x5_2 < (l1_3.length : Int)) = true := decide_eq_true c26
         clear c26
         replace H := Option.bind_eq_some_iff.mp H
         obtain ⟨t107, A270, H⟩ := H
         replace H : (if t107 = true then (wickerref02_Alike.l0 k2 (wrap64 (x5_2 + 1)) l0_0 l0_1 a0_2 l0_3 l1_0 l1_1 a1_2 l1_3) else (some false)) = some r := H
         have A27 := Aside0.mk A270
         clear A270
         by_cases c28 : t107 = true
         ·subst c28
          have H1 : (wickerref02_Alike.l0 k2 (wrap64 (x5_2 + 1)) l0_0 l0_1 a0_2 l0_3 l1_0 l1_1 a1_2 l1_3) = some r := by rw [if_pos rfl] at H; exact H
          clear H
          have H := H1
          clear H1
          have H' := Aside0.mk H
          clear H
          have hnb29 := NB101_102.out
          have hnc29 := NB102_101.out
          have hcz30_0 : wr.cell? ⟨gb101, 0, none⟩ = some (.slice A0_0 l0_0.length c0_0) := (blk_cell BK101.out 0).trans rfl
          have hcz30_1 : wr.cell? ⟨gb101, 1, none⟩ = some (.slice A0_1 l0_1.length c0_1) := (blk_cell BK101.out 1).trans rfl
          have hcz30_2 : wr.cell? ⟨gb101, 2, none⟩ = some (.int .i64 a0_2) := (blk_cell BK101.out 2).trans rfl
          have hcz30_3 : wr.cell? ⟨gb101, 3, none⟩ = some (.slice A0_3 l0_3.length c0_3) := (blk_cell BK101.out 3).trans rfl
          have hfz30_0 := blk_frozen BK101.out 0
          have hfz30_1 := blk_frozen BK101.out 1
          have hfz30_2 := blk_frozen BK101.out 2
          have hfz30_3 := blk_frozen BK101.out 3
          try go_wp2
          have n0_ := Aside0.mk (blk_drew BK101.out)
          have n1_ := Aside0.mk (blk_drew BK102.out)
          have n2_ := Aside0.mk (below_drew1 HB.out)
          clear BK101
          clear BK102
          clear HB
          have BK101 := n0_
          have BK102 := n1_
          have HB := n2_
          clear n0_ n1_ n2_
          have p105 : 0 ≤ (x5_2 : Int) := of_decide_eq_true (by first | (with_reducible assumption) | assumption)
          have q105 : x5_2 < (l0_3.length : Int) := of_decide_eq_true (by first | (with_reducible assumption) | assumption)
          obtain ⟨ad105, A105_1, c105_1, e105, hx105_0, hx105_1, hl105_1, hi105_1⟩ := at_T38 HR0_3.out x5_2 p105 q105
          have hw105_1 := hx105_1
          have hw105_0 := hx105_0
          cases e105
          replace hx105_0 := (HB.out.cell (World.block_lt_of_cell? w _ hx105_0)).trans hx105_0
          replace hx105_1 := (HB.out.cell (World.block_lt_of_cell? w _ hx105_1)).trans hx105_1
          have HR105_1 := Aside0.mk hi105_1
          have HC105_1 := Aside0.mk hl105_1
          clear hi105_1 hl105_1
          replace p105 := eq_true p105
          replace q105 := eq_true q105
          have p106 : 0 ≤ (x5_2 : Int) := of_decide_eq_true (by first | (with_reducible assumption) | assumption)
          have q106 : x5_2 < (l1_3.length : Int) := of_decide_eq_true (by first | (with_reducible assumption) | assumption)
          obtain ⟨ad106, A106_1, c106_1, e106, hx106_0, hx106_1, hl106_1, hi106_1⟩ := at_T38 HR1_3.out x5_2 p106 q106
          have hw106_1 := hx106_1
          have hw106_0 := hx106_0
          cases e106
          replace hx106_0 := (HB.out.cell (World.block_lt_of_cell? w _ hx106_0)).trans hx106_0
          replace hx106_1 := (HB.out.cell (World.block_lt_of_cell? w _ hx106_1)).trans hx106_1
          have HR106_1 := Aside0.mk hi106_1
          have HC106_1 := Aside0.mk hl106_1
          clear hi106_1 hl106_1
          replace p106 := eq_true p106
          replace q106 := eq_true q106
          refine start_ (n := 12) (S := fun w' => w'.cell? ⟨gb101, 0, none⟩ = some (.slice A0_0 l0_0.length c0_0) ∧ w'.cell? ⟨gb101, 1, none⟩ = some (.slice A0_1 l0_1.length c0_1) ∧ w'.cell? ⟨gb101, 2, none⟩ = some (.int .i64 a0_2) ∧ w'.cell? ⟨gb101, 3, none⟩ = some (.slice (some ad105) l0_3.length c0_3) ∧ w'.cell? ⟨gb102, 0, none⟩ = some (.slice A1_0 l1_0.length c1_0) ∧ w'.cell? ⟨gb102, 1, none⟩ = some (.slice A1_1 l1_1.length c1_1) ∧ w'.cell? ⟨gb102, 2, none⟩ = some (.int .i64 a1_2) ∧ w'.cell? ⟨gb102, 3, none⟩ = some (.slice (some ad106) l1_3.length c1_3) ∧ w'.cell? (ad105.add ((x5_2).toNat * 2)) = some (.int .i64 ((rd_T38 l0_3 x5_2).f0)) ∧ w'.cell? ⟨(ad105.add ((x5_2).toNat * 2)).block, (ad105.add ((x5_2).toNat * 2)).off + 1, none⟩ = some (.slice A105_1 ((rd_T38 l0_3 x5_2).f1).length c105_1) ∧ w'.cell? (ad106.add ((x5_2).toNat * 2)) = some (.int .i64 ((rd_T38 l1_3 x5_2).f0)) ∧ w'.cell? ⟨(ad106.add ((x5_2).toNat * 2)).block, (ad106.add ((x5_2).toNat * 2)).off + 1, none⟩ = some (.slice A106_1 ((rd_T38 l1_3 x5_2).f1).length c106_1)) (ds := []) #[false, false, false, false, false, false, false, false, false, false, false, false] (by kernel_rfl) rfl rfl ⟨(blk_cell BK101.out 0).trans rfl, (blk_cell BK101.out 1).trans rfl, (blk_cell BK101.out 2).trans rfl, (blk_cell BK101.out 3).trans rfl, (blk_cell BK102.out 0).trans rfl, (blk_cell BK102.out 1).trans rfl, (blk_cell BK102.out 2).trans rfl, (blk_cell BK102.out 3).trans rfl, ((HB.out.cell (World.block_lt_of_cell? w _ hw105_0)).trans hw105_0), ((HB.out.cell (World.block_lt_of_cell? w _ hw105_1)).trans hw105_1), ((HB.out.cell (World.block_lt_of_cell? w _ hw106_0)).trans hw106_0), ((HB.out.cell (World.block_lt_of_cell? w _ hw106_1)).trans hw106_1)⟩ (fun hHeld => ?_); refine with_tabW wickerref02_Alike.tab6 wickerref02_Alike.bits6 (fun HT_ HW_ => ?_)
          generalize wr.drew = w31 at BK101 BK102 HB HR105_1 HR106_1 hx105_0 hx105_1 hx106_0 hx106_1 hHeld ⊢
          refine pure_ (i := 0) (N := some 43) (v := ?_) (a' := ?_) #[true, false, false, false, false, false, false, false, false, false, false, false] rfl rfl (any_of HT_.out (by kernel_rfl)) (fun _ _ _ h => h) (Or.inl ⟨by rfl, ?_⟩) ?_ ?_
          rotate_left
          ·intro w'
           go_simp
           with_reducible rfl
          rotate_left
          ·simp only [Act.put, List.setIfInBounds_toArray, List.set_cons_zero, List.set_cons_succ, i64_w, i32_w]
           rfl
          refine pure_ (i := 2) (N := some 45) (v := ?_) (a' := ?_) #[true, false, true, false, false, false, false, false, false, false, false, false] rfl rfl (any_of HT_.out (by kernel_rfl)) (fun _ _ _ h => h) (Or.inl ⟨by rfl, ?_⟩) ?_ ?_
          rotate_left
          ·intro w'
           go_simp
           with_reducible rfl
          rotate_left
          ·simp only [Act.put, List.setIfInBounds_toArray, List.set_cons_zero, List.set_cons_succ, i64_w, i32_w]
           rfl
          refine pure_ (i := 5) (N := some 48) (v := ?_) (a' := ?_) #[true, false, true, false, false, true, false, false, false, false, false, false] rfl rfl (any_of HT_.out (by kernel_rfl)) (fun _ _ _ h => h) (Or.inl ⟨by rfl, ?_⟩) ?_ ?_
          rotate_left
          ·intro w'
           go_simp
           with_reducible rfl
          rotate_left
          ·simp only [Act.put, List.setIfInBounds_toArray, List.set_cons_zero, List.set_cons_succ, i64_w, i32_w]
           rfl
          refine pure_ (i := 7) (N := some 50) (v := ?_) (a' := ?_) #[true, false, true, false, false, true, false, true, false, false, false, false] rfl rfl (any_of HT_.out (by kernel_rfl)) (fun _ _ _ h => h) (Or.inl ⟨by rfl, ?_⟩) ?_ ?_
          rotate_left
          ·intro w'
           go_simp
           with_reducible rfl
          rotate_left
          ·simp only [Act.put, List.setIfInBounds_toArray, List.set_cons_zero, List.set_cons_succ, i64_w, i32_w]
           rfl
          refine take_ (i := 1) (N := some 44) (v := ?_) (a' := ?_) #[true, true, true, false, false, true, false, true, false, false, false, false] rfl rfl (take_ofW HT_.out HW_.out (by kernel_rfl)) (fun _ _ _ h => h) (Or.inl ⟨by rfl, ?_⟩) hHeld ?_ ?_
          rotate_left
          ·rintro w' ⟨s0, s1, s2, s3, s4, s5, s6, s7, s8, s9, s10, s11⟩
           go_simp
           with_reducible rfl
          rotate_left
          ·simp only [Act.put, List.setIfInBounds_toArray, List.set_cons_zero, List.set_cons_succ, i64_w, i32_w]
           rfl
          refine pure_ (i := 3) (N := some 46) (v := ?_) (a' := ?_) #[true, true, true, true, false, true, false, true, false, false, false, false] rfl rfl (any_of HT_.out (by kernel_rfl)) (fun _ _ _ h => h) (Or.inl ⟨by rfl, ?_⟩) ?_ ?_
          rotate_left
          ·intro w'
           go_simp
           with_reducible rfl
          rotate_left
          ·simp only [Act.put, List.setIfInBounds_toArray, List.set_cons_zero, List.set_cons_succ, i64_w, i32_w]
           rfl
          refine take_ (i := 4) (N := some 47) (v := ?_) (a' := ?_) #[true, true, true, true, true, true, false, true, false, false, false, false] rfl rfl (take_ofW HT_.out HW_.out (by kernel_rfl)) (fun _ _ _ h => h) (Or.inl ⟨by rfl, ?_⟩) hHeld ?_ ?_
          rotate_left
          ·rintro w' ⟨s0, s1, s2, s3, s4, s5, s6, s7, s8, s9, s10, s11⟩
           go_simp
           with_reducible rfl
          rotate_left
          ·simp only [Act.put, List.setIfInBounds_toArray, List.set_cons_zero, List.set_cons_succ, i64_w, i32_w]
           rfl
          refine take_ (i := 6) (N := some 49) (v := ?_) (a' := ?_) #[true, true, true, true, true, true, true, true, false, false, false, false] rfl rfl (take_ofW HT_.out HW_.out (by kernel_rfl)) (fun _ _ _ h => h) (Or.inl ⟨by rfl, ?_⟩) hHeld ?_ ?_
          rotate_left
          ·rintro w' ⟨s0, s1, s2, s3, s4, s5, s6, s7, s8, s9, s10, s11⟩
           go_simp
           with_reducible rfl
          rotate_left
          ·simp only [Act.put, List.setIfInBounds_toArray, List.set_cons_zero, List.set_cons_succ, i64_w, i32_w]
           rfl
          refine pure_ (i := 8) (N := some 51) (v := ?_) (a' := ?_) #[true, true, true, true, true, true, true, true, true, false, false, false] rfl rfl (any_of HT_.out (by kernel_rfl)) (fun _ _ _ h => h) (Or.inl ⟨by rfl, ?_⟩) ?_ ?_
          rotate_left
          ·intro w'
           go_simp
           with_reducible rfl
          rotate_left
          ·simp only [Act.put, List.setIfInBounds_toArray, List.set_cons_zero, List.set_cons_succ, i64_w, i32_w]
           rfl
          refine take_ (i := 9) (N := some 52) (v := ?_) (a' := ?_) #[true, true, true, true, true, true, true, true, true, true, false, false] rfl rfl (take_ofW HT_.out HW_.out (by kernel_rfl)) (fun _ _ _ h => h) (Or.inl ⟨by rfl, ?_⟩) hHeld ?_ ?_
          rotate_left
          ·rintro w' ⟨s0, s1, s2, s3, s4, s5, s6, s7, s8, s9, s10, s11⟩
           go_simp
           with_reducible rfl
          rotate_left
          ·simp only [Act.put, List.setIfInBounds_toArray, List.set_cons_zero, List.set_cons_succ, i64_w, i32_w]
           rfl
          refine one_ (i := 10) (N := some 53) #[true, true, true, true, true, true, true, true, true, true, true, false] rfl rfl (one_of HT_.out (by kernel_rfl)) (by decide) (fun K hK => ?_)
          refine goes_ Tryd.func54 (by kernel_rfl) rfl #[.agg #[.int .i64 ((rd_T38 l0_3 x5_2).f0), .slice A105_1 ((rd_T38 l0_3 x5_2).f1).length c105_1], .agg #[.int .i64 ((rd_T38 l1_3 x5_2).f0), .slice A106_1 ((rd_T38 l1_3 x5_2).f1).length c106_1]] (by rfl) rfl rfl (by (try simp only [List.map_toArray, List.map_cons, List.map_nil]); first | done | rfl | (simp only [List.length_drop, List.length_take]; rfl)) ?_
          with_reducible refine (wickerref02_Same.calls k2 ((rd_T38 l0_3 x5_2).f0) _ _ ((rd_T38 l0_3 x5_2).f1) ((rd_T38 l1_3 x5_2).f0) _ _ ((rd_T38 l1_3 x5_2).f1) true _ ?side1 ?side2 ?side3 ?side4 A27.out).mono ?_
          (case side1 => repeat (first | exact (Kd.C_below HR105_1.out HB.out) | (with_reducible refine Kd.C_alloc ?_ _) | (with_reducible refine Kd.C_drewN ?_ _) | (with_reducible refine Kd.C_drew ?_)))
          (case side2 => exact HC105_1.out)
          (case side3 => repeat (first | exact (Kd.C_below HR106_1.out HB.out) | (with_reducible refine Kd.C_alloc ?_ _) | (with_reducible refine Kd.C_drewN ?_ _) | (with_reducible refine Kd.C_drew ?_)))
          (case side4 => exact HC106_1.out)
          rintro e w32 ⟨rfl, hb⟩
          refine ⟨_, rfl, ?_⟩
          have n0_ := Aside0.mk (blk_below (g := gb101) (o := .cells #[.slice A0_0 l0_0.length c0_0, .slice A0_1 l0_1.length c0_1, .int .i64 a0_2, .slice (some ad105) l0_3.length c0_3] 30 (0, 0)) (by (with_reducible repeat (first | refine blk_drewN ?_ _ | refine blk_drew ?_ | refine blk_alloc ?_ _)); exact BK101.out) hb)
          have n1_ := Aside0.mk (blk_below (g := gb102) (o := .cells #[.slice A1_0 l1_0.length c1_0, .slice A1_1 l1_1.length c1_1, .int .i64 a1_2, .slice (some ad106) l1_3.length c1_3] 30 (0, 0)) (by (with_reducible repeat (first | refine blk_drewN ?_ _ | refine blk_drew ?_ | refine blk_alloc ?_ _)); exact BK102.out) hb)
          have n2_ := Aside0.mk (below_step (by repeat (first | (with_reducible first | exact HB.out | apply below_alloc | apply pw_below_drewN | apply below_drew1 | refine below_set ?_ GE101.out | refine below_set ?_ GE102.out) | exact HB.out)) hb)
          clear BK101
          clear BK102
          clear HB
          have BK101 := n0_
          have BK102 := n1_
          have HB := n2_
          clear n0_ n1_ n2_
          (try clear hb)
          (try clear hb2)
          (try clear hk)
          (try clear hi)
          refine hK.out _ _ ⟨(blk_cell BK101.out 0).trans rfl, (blk_cell BK101.out 1).trans rfl, (blk_cell BK101.out 2).trans rfl, (blk_cell BK101.out 3).trans rfl, (blk_cell BK102.out 0).trans rfl, (blk_cell BK102.out 1).trans rfl, (blk_cell BK102.out 2).trans rfl, (blk_cell BK102.out 3).trans rfl, ((HB.out.cell (World.block_lt_of_cell? w _ hw105_0)).trans hw105_0), ((HB.out.cell (World.block_lt_of_cell? w _ hw105_1)).trans hw105_1), ((HB.out.cell (World.block_lt_of_cell? w _ hw106_0)).trans hw106_0), ((HB.out.cell (World.block_lt_of_cell? w _ hw106_1)).trans hw106_1)⟩ (fun hHeld => ?_)
          clear hK K
          refine norm_ (a' := ?_) ?_ ?_
          rotate_left
          ·show Act.put _ (some 53) _ = _
           simp only [Act.put, List.setIfInBounds_toArray, List.set_cons_zero, List.set_cons_succ, i64_w, i32_w]
           rfl
          refine pure_ (i := 11) (N := some 54) (v := ?_) (a' := ?_) #[true, true, true, true, true, true, true, true, true, true, true, true] rfl rfl (any_of HT_.out (by kernel_rfl)) (fun _ _ _ h => h) (Or.inl ⟨by rfl, ?_⟩) ?_ ?_
          rotate_left
          ·intro w'
           go_simp
           with_reducible rfl
          rotate_left
          ·simp only [Act.put, List.setIfInBounds_toArray, List.set_cons_zero, List.set_cons_succ, i64_w, i32_w]
           rfl
          refine done_ (done_of HT_.out (by kernel_rfl)) ?_
          try go_wp2
          go_roundg k2
          case measure => have := HJ2.out; have := HK2.out; omega
          case rel => exact ⟨(wrap64 (x5_2 + 1)), (by first | rfl | (simp; done) | (simp [*]; done)), H', ⟨by have := HJ2.out; have := HK2.out; omega⟩, ⟨by (with_reducible repeat (first | refine blk_drewN ?_ _ | refine blk_drew ?_ | refine blk_alloc ?_ _)); exact BK101.out⟩, ⟨by (with_reducible repeat (first | refine blk_drewN ?_ _ | refine blk_drew ?_ | refine blk_alloc ?_ _)); exact BK102.out⟩, ⟨by repeat (first | (with_reducible first | exact HB.out | apply below_alloc | apply pw_below_drewN | apply below_drew1 | refine below_set ?_ GE101.out | refine below_set ?_ GE102.out) | exact HB.out)⟩⟩
         ·replace c28 := Bool.eq_false_iff.mpr c28
          subst c28
          have H1 : (some false) = some r := by rw [if_neg (show ¬ (false = true) by decide)] at H; exact H
          clear H
          have H := H1
          clear H1
          obtain rfl := Option.some.inj H
          have hnb33 := NB101_102.out
          have hnc33 := NB102_101.out
          have hcz34_0 : wr.cell? ⟨gb101, 0, none⟩ = some (.slice A0_0 l0_0.length c0_0) := (blk_cell BK101.out 0).trans rfl
          have hcz34_1 : wr.cell? ⟨gb101, 1, none⟩ = some (.slice A0_1 l0_1.length c0_1) := (blk_cell BK101.out 1).trans rfl
          have hcz34_2 : wr.cell? ⟨gb101, 2, none⟩ = some (.int .i64 a0_2) := (blk_cell BK101.out 2).trans rfl
          have hcz34_3 : wr.cell? ⟨gb101, 3, none⟩ = some (.slice A0_3 l0_3.length c0_3) := (blk_cell BK101.out 3).trans rfl
          have hfz34_0 := blk_frozen BK101.out 0
          have hfz34_1 := blk_frozen BK101.out 1
          have hfz34_2 := blk_frozen BK101.out 2
          have hfz34_3 := blk_frozen BK101.out 3
          try go_wp2
          have n0_ := Aside0.mk (blk_drew BK101.out)
          have n1_ := Aside0.mk (blk_drew BK102.out)
          have n2_ := Aside0.mk (below_drew1 HB.out)
          clear BK101
          clear BK102
          clear HB
          have BK101 := n0_
          have BK102 := n1_
          have HB := n2_
          clear n0_ n1_ n2_
          have p105 : 0 ≤ (x5_2 : Int) := of_decide_eq_true (by first | (with_reducible assumption) | assumption)
          have q105 : x5_2 < (l0_3.length : Int) := of_decide_eq_true (by first | (with_reducible assumption) | assumption)
          obtain ⟨ad105, A105_1, c105_1, e105, hx105_0, hx105_1, hl105_1, hi105_1⟩ := at_T38 HR0_3.out x5_2 p105 q105
          have hw105_1 := hx105_1
          have hw105_0 := hx105_0
          cases e105
          replace hx105_0 := (HB.out.cell (World.block_lt_of_cell? w _ hx105_0)).trans hx105_0
          replace hx105_1 := (HB.out.cell (World.block_lt_of_cell? w _ hx105_1)).trans hx105_1
          have HR105_1 := Aside0.mk hi105_1
          have HC105_1 := Aside0.mk hl105_1
          clear hi105_1 hl105_1
          replace p105 := eq_true p105
          replace q105 := eq_true q105
          have p106 : 0 ≤ (x5_2 : Int) := of_decide_eq_true (by first | (with_reducible assumption) | assumption)
          have q106 : x5_2 < (l1_3.length : Int) := of_decide_eq_true (by first | (with_reducible assumption) | assumption)
          obtain ⟨ad106, A106_1, c106_1, e106, hx106_0, hx106_1, hl106_1, hi106_1⟩ := at_T38 HR1_3.out x5_2 p106 q106
          have hw106_1 := hx106_1
          have hw106_0 := hx106_0
          cases e106
          replace hx106_0 := (HB.out.cell (World.block_lt_of_cell? w _ hx106_0)).trans hx106_0
          replace hx106_1 := (HB.out.cell (World.block_lt_of_cell? w _ hx106_1)).trans hx106_1
          have HR106_1 := Aside0.mk hi106_1
          have HC106_1 := Aside0.mk hl106_1
          clear hi106_1 hl106_1
          replace p106 := eq_true p106
          replace q106 := eq_true q106
          refine start_ (n := 12) (S := fun w' => w'.cell? ⟨gb101, 0, none⟩ = some (.slice A0_0 l0_0.length c0_0) ∧ w'.cell? ⟨gb101, 1, none⟩ = some (.slice A0_1 l0_1.length c0_1) ∧ w'.cell? ⟨gb101, 2, none⟩ = some (.int .i64 a0_2) ∧ w'.cell? ⟨gb101, 3, none⟩ = some (.slice (some ad105) l0_3.length c0_3) ∧ w'.cell? ⟨gb102, 0, none⟩ = some (.slice A1_0 l1_0.length c1_0) ∧ w'.cell? ⟨gb102, 1, none⟩ = some (.slice A1_1 l1_1.length c1_1) ∧ w'.cell? ⟨gb102, 2, none⟩ = some (.int .i64 a1_2) ∧ w'.cell? ⟨gb102, 3, none⟩ = some (.slice (some ad106) l1_3.length c1_3) ∧ w'.cell? (ad105.add ((x5_2).toNat * 2)) = some (.int .i64 ((rd_T38 l0_3 x5_2).f0)) ∧ w'.cell? ⟨(ad105.add ((x5_2).toNat * 2)).block, (ad105.add ((x5_2).toNat * 2)).off + 1, none⟩ = some (.slice A105_1 ((rd_T38 l0_3 x5_2).f1).length c105_1) ∧ w'.cell? (ad106.add ((x5_2).toNat * 2)) = some (.int .i64 ((rd_T38 l1_3 x5_2).f0)) ∧ w'.cell? ⟨(ad106.add ((x5_2).toNat * 2)).block, (ad106.add ((x5_2).toNat * 2)).off + 1, none⟩ = some (.slice A106_1 ((rd_T38 l1_3 x5_2).f1).length c106_1)) (ds := []) #[false, false, false, false, false, false, false, false, false, false, false, false] (by kernel_rfl) rfl rfl ⟨(blk_cell BK101.out 0).trans rfl, (blk_cell BK101.out 1).trans rfl, (blk_cell BK101.out 2).trans rfl, (blk_cell BK101.out 3).trans rfl, (blk_cell BK102.out 0).trans rfl, (blk_cell BK102.out 1).trans rfl, (blk_cell BK102.out 2).trans rfl, (blk_cell BK102.out 3).trans rfl, ((HB.out.cell (World.block_lt_of_cell? w _ hw105_0)).trans hw105_0), ((HB.out.cell (World.block_lt_of_cell? w _ hw105_1)).trans hw105_1), ((HB.out.cell (World.block_lt_of_cell? w _ hw106_0)).trans hw106_0), ((HB.out.cell (World.block_lt_of_cell? w _ hw106_1)).trans hw106_1)⟩ (fun hHeld => ?_); refine with_tabW wickerref02_Alike.tab6 wickerref02_Alike.bits6 (fun HT_ HW_ => ?_)
          generalize wr.drew = w35 at BK101 BK102 HB HR105_1 HR106_1 hx105_0 hx105_1 hx106_0 hx106_1 hHeld ⊢
          refine pure_ (i := 0) (N := some 43) (v := ?_) (a' := ?_) #[true, false, false, false, false, false, false, false, false, false, false, false] rfl rfl (any_of HT_.out (by kernel_rfl)) (fun _ _ _ h => h) (Or.inl ⟨by rfl, ?_⟩) ?_ ?_
          rotate_left
          ·intro w'
           go_simp
           with_reducible rfl
          rotate_left
          ·simp only [Act.put, List.setIfInBounds_toArray, List.set_cons_zero, List.set_cons_succ, i64_w, i32_w]
           rfl
          refine pure_ (i := 2) (N := some 45) (v := ?_) (a' := ?_) #[true, false, true, false, false, false, false, false, false, false, false, false] rfl rfl (any_of HT_.out (by kernel_rfl)) (fun _ _ _ h => h) (Or.inl ⟨by rfl, ?_⟩) ?_ ?_
          rotate_left
          ·intro w'
           go_simp
           with_reducible rfl
          rotate_left
          ·simp only [Act.put, List.setIfInBounds_toArray, List.set_cons_zero, List.set_cons_succ, i64_w, i32_w]
           rfl
          refine pure_ (i := 5) (N := some 48) (v := ?_) (a' := ?_) #[true, false, true, false, false, true, false, false, false, false, false, false] rfl rfl (any_of HT_.out (by kernel_rfl)) (fun _ _ _ h => h) (Or.inl ⟨by rfl, ?_⟩) ?_ ?_
          rotate_left
          ·intro w'
           go_simp
           with_reducible rfl
          rotate_left
          ·simp only [Act.put, List.setIfInBounds_toArray, List.set_cons_zero, List.set_cons_succ, i64_w, i32_w]
           rfl
          refine pure_ (i := 7) (N := some 50) (v := ?_) (a' := ?_) #[true, false, true, false, false, true, false, true, false, false, false, false] rfl rfl (any_of HT_.out (by kernel_rfl)) (fun _ _ _ h => h) (Or.inl ⟨by rfl, ?_⟩) ?_ ?_
          rotate_left
          ·intro w'
           go_simp
           with_reducible rfl
          rotate_left
          ·simp only [Act.put, List.setIfInBounds_toArray, List.set_cons_zero, List.set_cons_succ, i64_w, i32_w]
           rfl
          refine take_ (i := 1) (N := some 44) (v := ?_) (a' := ?_) #[true, true, true, false, false, true, false, true, false, false, false, false] rfl rfl (take_ofW HT_.out HW_.out (by kernel_rfl)) (fun _ _ _ h => h) (Or.inl ⟨by rfl, ?_⟩) hHeld ?_ ?_
          rotate_left
          ·rintro w' ⟨s0, s1, s2, s3, s4, s5, s6, s7, s8, s9, s10, s11⟩
           go_simp
           with_reducible rfl
          rotate_left
          ·simp only [Act.put, List.setIfInBounds_toArray, List.set_cons_zero, List.set_cons_succ, i64_w, i32_w]
           rfl
          refine pure_ (i := 3) (N := some 46) (v := ?_) (a' := ?_) #[true, true, true, true, false, true, false, true, false, false, false, false] rfl rfl (any_of HT_.out (by kernel_rfl)) (fun _ _ _ h => h) (Or.inl ⟨by rfl, ?_⟩) ?_ ?_
          rotate_left
          ·intro w'
           go_simp
           with_reducible rfl
          rotate_left
          ·simp only [Act.put, List.setIfInBounds_toArray, List.set_cons_zero, List.set_cons_succ, i64_w, i32_w]
           rfl
          refine take_ (i := 4) (N := some 47) (v := ?_) (a' := ?_) #[true, true, true, true, true, true, false, true, false, false, false, false] rfl rfl (take_ofW HT_.out HW_.out (by kernel_rfl)) (fun _ _ _ h => h) (Or.inl ⟨by rfl, ?_⟩) hHeld ?_ ?_
          rotate_left
          ·rintro w' ⟨s0, s1, s2, s3, s4, s5, s6, s7, s8, s9, s10, s11⟩
           go_simp
           with_reducible rfl
          rotate_left
          ·simp only [Act.put, List.setIfInBounds_toArray, List.set_cons_zero, List.set_cons_succ, i64_w, i32_w]
           rfl
          refine take_ (i := 6) (N := some 49) (v := ?_) (a' := ?_) #[true, true, true, true, true, true, true, true, false, false, false, false] rfl rfl (take_ofW HT_.out HW_.out (by kernel_rfl)) (fun _ _ _ h => h) (Or.inl ⟨by rfl, ?_⟩) hHeld ?_ ?_
          rotate_left
          ·rintro w' ⟨s0, s1, s2, s3, s4, s5, s6, s7, s8, s9, s10, s11⟩
           go_simp
           with_reducible rfl
          rotate_left
          ·simp only [Act.put, List.setIfInBounds_toArray, List.set_cons_zero, List.set_cons_succ, i64_w, i32_w]
           rfl
          refine pure_ (i := 8) (N := some 51) (v := ?_) (a' := ?_) #[true, true, true, true, true, true, true, true, true, false, false, false] rfl rfl (any_of HT_.out (by kernel_rfl)) (fun _ _ _ h => h) (Or.inl ⟨by rfl, ?_⟩) ?_ ?_
          rotate_left
          ·intro w'
           go_simp
           with_reducible rfl
          rotate_left
          ·simp only [Act.put, List.setIfInBounds_toArray, List.set_cons_zero, List.set_cons_succ, i64_w, i32_w]
           rfl
          refine take_ (i := 9) (N := some 52) (v := ?_) (a' := ?_) #[true, true, true, true, true, true, true, true, true, true, false, false] rfl rfl (take_ofW HT_.out HW_.out (by kernel_rfl)) (fun _ _ _ h => h) (Or.inl ⟨by rfl, ?_⟩) hHeld ?_ ?_
          rotate_left
          ·rintro w' ⟨s0, s1, s2, s3, s4, s5, s6, s7, s8, s9, s10, s11⟩
           go_simp
           with_reducible rfl
          rotate_left
          ·simp only [Act.put, List.setIfInBounds_toArray, List.set_cons_zero, List.set_cons_succ, i64_w, i32_w]
           rfl
          refine one_ (i := 10) (N := some 53) #[true, true, true, true, true, true, true, true, true, true, true, false] rfl rfl (one_of HT_.out (by kernel_rfl)) (by decide) (fun K hK => ?_)
          refine goes_ Tryd.func54 (by kernel_rfl) rfl #[.agg #[.int .i64 ((rd_T38 l0_3 x5_2).f0), .slice A105_1 ((rd_T38 l0_3 x5_2).f1).length c105_1], .agg #[.int .i64 ((rd_T38 l1_3 x5_2).f0), .slice A106_1 ((rd_T38 l1_3 x5_2).f1).length c106_1]] (by rfl) rfl rfl (by (try simp only [List.map_toArray, List.map_cons, List.map_nil]); first | done | rfl | (simp only [List.length_drop, List.length_take]; rfl)) ?_
          with_reducible refine (wickerref02_Same.calls k2 ((rd_T38 l0_3 x5_2).f0) _ _ ((rd_T38 l0_3 x5_2).f1) ((rd_T38 l1_3 x5_2).f0) _ _ ((rd_T38 l1_3 x5_2).f1) false _ ?side1 ?side2 ?side3 ?side4 A27.out).mono ?_
          (case side1 => repeat (first | exact (Kd.C_below HR105_1.out HB.out) | (with_reducible refine Kd.C_alloc ?_ _) | (with_reducible refine Kd.C_drewN ?_ _) | (with_reducible refine Kd.C_drew ?_)))
          (case side2 => exact HC105_1.out)
          (case side3 => repeat (first | exact (Kd.C_below HR106_1.out HB.out) | (with_reducible refine Kd.C_alloc ?_ _) | (with_reducible refine Kd.C_drewN ?_ _) | (with_reducible refine Kd.C_drew ?_)))
          (case side4 => exact HC106_1.out)
          rintro e w36 ⟨rfl, hb⟩
          refine ⟨_, rfl, ?_⟩
          have n0_ := Aside0.mk (blk_below (g := gb101) (o := .cells #[.slice A0_0 l0_0.length c0_0, .slice A0_1 l0_1.length c0_1, .int .i64 a0_2, .slice (some ad105) l0_3.length c0_3] 30 (0, 0)) (by (with_reducible repeat (first | refine blk_drewN ?_ _ | refine blk_drew ?_ | refine blk_alloc ?_ _)); exact BK101.out) hb)
          have n1_ := Aside0.mk (blk_below (g := gb102) (o := .cells #[.slice A1_0 l1_0.length c1_0, .slice A1_1 l1_1.length c1_1, .int .i64 a1_2, .slice (some ad106) l1_3.length c1_3] 30 (0, 0)) (by (with_reducible repeat (first | refine blk_drewN ?_ _ | refine blk_drew ?_ | refine blk_alloc ?_ _)); exact BK102.out) hb)
          have n2_ := Aside0.mk (below_step (by repeat (first | (with_reducible first | exact HB.out | apply below_alloc | apply pw_below_drewN | apply below_drew1 | refine below_set ?_ GE101.out | refine below_set ?_ GE102.out) | exact HB.out)) hb)
          clear BK101
          clear BK102
          clear HB
          have BK101 := n0_
          have BK102 := n1_
          have HB := n2_
          clear n0_ n1_ n2_
          (try clear hb)
          (try clear hb2)
          (try clear hk)
          (try clear hi)
          refine hK.out _ _ ⟨(blk_cell BK101.out 0).trans rfl, (blk_cell BK101.out 1).trans rfl, (blk_cell BK101.out 2).trans rfl, (blk_cell BK101.out 3).trans rfl, (blk_cell BK102.out 0).trans rfl, (blk_cell BK102.out 1).trans rfl, (blk_cell BK102.out 2).trans rfl, (blk_cell BK102.out 3).trans rfl, ((HB.out.cell (World.block_lt_of_cell? w _ hw105_0)).trans hw105_0), ((HB.out.cell (World.block_lt_of_cell? w _ hw105_1)).trans hw105_1), ((HB.out.cell (World.block_lt_of_cell? w _ hw106_0)).trans hw106_0), ((HB.out.cell (World.block_lt_of_cell? w _ hw106_1)).trans hw106_1)⟩ (fun hHeld => ?_)
          clear hK K
          refine norm_ (a' := ?_) ?_ ?_
          rotate_left
          ·show Act.put _ (some 53) _ = _
           simp only [Act.put, List.setIfInBounds_toArray, List.set_cons_zero, List.set_cons_succ, i64_w, i32_w]
           rfl
          refine pure_ (i := 11) (N := some 54) (v := ?_) (a' := ?_) #[true, true, true, true, true, true, true, true, true, true, true, true] rfl rfl (any_of HT_.out (by kernel_rfl)) (fun _ _ _ h => h) (Or.inl ⟨by rfl, ?_⟩) ?_ ?_
          rotate_left
          ·intro w'
           go_simp
           with_reducible rfl
          rotate_left
          ·simp only [Act.put, List.setIfInBounds_toArray, List.set_cons_zero, List.set_cons_succ, i64_w, i32_w]
           rfl
          refine done_ (done_of HT_.out (by kernel_rfl)) ?_
          try go_wp2
          go_ret
          exact ⟨by first | rfl | (simp [errW_none, errW_some] <;> rfl) | (simp [*, errW_none, errW_some] <;> rfl), by repeat (first | (with_reducible first | exact HB.out | apply below_alloc | apply pw_below_drewN | apply below_drew1 | refine below_set ?_ GE101.out | refine below_set ?_ GE102.out) | exact HB.out)⟩
        ·rw [if_neg c26] at H
         exact absurd H (by simp)
       ·rw [if_neg c25] at H
        exact absurd H (by simp)
      ·rw [if_neg c24] at H
       have c24b0 : decide (x5_2 < (l0_3.length : Int)) = false := decide_eq_false c24
       clear c24
       obtain rfl := Option.some.inj H
       have hnb37 := NB101_102.out
       have hnc37 := NB102_101.out
       have hcz38_0 : wr.cell? ⟨gb101, 0, none⟩ = some (.slice A0_0 l0_0.length c0_0) := (blk_cell BK101.out 0).trans rfl
       have hcz38_1 : wr.cell? ⟨gb101, 1, none⟩ = some (.slice A0_1 l0_1.length c0_1) := (blk_cell BK101.out 1).trans rfl
       have hcz38_2 : wr.cell? ⟨gb101, 2, none⟩ = some (.int .i64 a0_2) := (blk_cell BK101.out 2).trans rfl
       have hcz38_3 : wr.cell? ⟨gb101, 3, none⟩ = some (.slice A0_3 l0_3.length c0_3) := (blk_cell BK101.out 3).trans rfl
       have hfz38_0 := blk_frozen BK101.out 0
       have hfz38_1 := blk_frozen BK101.out 1
       have hfz38_2 := blk_frozen BK101.out 2
       have hfz38_3 := blk_frozen BK101.out 3
       go_wp2
       go_ret
       exact ⟨by first | rfl | (simp [errW_none, errW_some] <;> rfl) | (simp [*, errW_none, errW_some] <;> rfl), by repeat (first | (with_reducible first | exact HB.out | apply below_alloc | apply pw_below_drewN | apply below_drew1 | refine below_set ?_ GE101.out | refine below_set ?_ GE102.out) | exact HB.out)⟩
end Go.Proofs.YtgdcnmpcfoomiaaDoor.G
end
section
set_option linter.unusedVariables false
set_option linter.unusedSimpArgs false
namespace Go.Proofs.YtgdcnmpcfoomiaaDoor.G
open Go Go.Proofs Go.RowKit Go.Proofs.YtgdcnmpcfoomiaaDoorW.PrintWords Go.Proofs.YtgdcnmpcfoomiaaDoor.Pure
def idxT (left : Int) (l : List GRule) : Nat → List Int
  | 0 => []
  | j + 1 => match l[j]? with
    | some r => if r.f0 = left then idxT left l j ++ [(j : Int)] else idxT left l j
    | none => idxT left l j
theorem idxT_yes {left : Int} {l : List GRule} {j : Nat} (h : j < l.length) (e : l[j].f0 = left) : idxT left l (j + 1) = idxT left l j ++ [(j : Int)] := by
  rw [idxT, List.getElem?_eq_getElem h]; exact if_pos e
theorem idxT_no {left : Int} {l : List GRule} {j : Nat} (h : j < l.length) (e : ¬ l[j].f0 = left) : idxT left l (j + 1) = idxT left l j := by
  rw [idxT, List.getElem?_eq_getElem h]; exact if_neg e
theorem idxT_le (left : Int) (l : List GRule) : ∀ j, (idxT left l j).length ≤ j := by
  intro j
  induction j with
  | zero => simp [idxT]
  | succ j ih =>
    rw [idxT]
    split
    · split
      · rw [List.length_append, List.length_singleton]; omega
      · omega
    · omega
theorem of_l0 (l0 l1 : List ByteArray) (a2 : Int) (l3 : List GRule) (left : Int) (hn : l3.length ≤ 1000000) : ∀ (d i : Nat), i + d = l3.length → Ev (fun k => gram_Grammar_Of.l0 k left (idxT left l3 i) (l3.length : Int) (i : Int) l0 l1 a2 l3) (idxT left l3 l3.length) := by
  intro d
  induction d with
  | zero =>
    intro i hi
    obtain rfl : i = l3.length := by omega
    refine ev_nowS fun k => ?_
    rw [gram_Grammar_Of.l0, if_neg (by omega)]
  | succ d ih =>
    intro i hi
    have hi1 : i < l3.length := by omega
    have hle := idxT_le left l3 i
    by_cases e : l3[i].f0 = left
    · refine Ev.step (fun k => ?_) (ih (i + 1) (by omega))
      rw [gram_Grammar_Of.l0, if_pos (by omega), if_pos (by omega), if_pos (by omega), rdG l3 i hi1, if_pos e, if_pos (by omega), wsucc (by omega), idxT_yes hi1 e]
    · refine Ev.step (fun k => ?_) (ih (i + 1) (by omega))
      rw [gram_Grammar_Of.l0, if_pos (by omega), if_pos (by omega), if_pos (by omega), rdG l3 i hi1, if_neg e, wsucc (by omega), idxT_no hi1 e]
theorem gof_f (l0 l1 : List ByteArray) (a2 : Int) (l3 : List GRule) (left : Int) (hn : l3.length ≤ 1000000) : Ev (fun k => gram_Grammar_Of.f k l0 l1 a2 l3 left) (idxT left l3 l3.length) := of_l0 l0 l1 a2 l3 left hn l3.length 0 (by omega)
theorem findG_findR (r : GRule) : ∀ (l : List GRule) (i : Nat), findG r l (i : Int) = match l.findIdx? (fun s => decide (s = r)) with
  | some j => ((i + j : Nat) : Int)
  | none => -1 := by
  intro l
  induction l with
  | nil => intro i; rfl
  | cons a l ih =>
    intro i
    rw [List.findIdx?_cons, findG]
    by_cases e : a = r
    · rw [if_pos e, decide_eq_true e]; rfl
    · rw [if_neg e, decide_eq_false e, show (i : Int) + 1 = ((i + 1 : Nat) : Int) by omega, ih (i + 1)]
      cases l.findIdx? (fun s => decide (s = r)) with
      | none => rfl
      | some j => show ((i + 1 + j : Nat) : Int) = ((i + (j + 1) : Nat) : Int); omega
theorem refind_f (l : List GRule) (hn : l.length ≤ 1000000) (hok : l.all ruleOk = true) (r : GRule) (hr : r.f1.length ≤ 1000000) : Ev (fun k => wickerref02_Find.f k (l.map ofR) r.f0 r.f1) (findR r l) := by
  refine Ev.eq (find_f l hn hok r hr) ?_
  have := findG_findR r l 0
  rw [show ((0 : Nat) : Int) = 0 from rfl] at this
  rw [this, findR]
  cases l.findIdx? (fun s => decide (s = r)) with
  | none => rfl
  | some j => simp
theorem rtexts_l0 (a b : List ByteArray) (ha : a.length ≤ 1000000) (hl : a.length = b.length) : ∀ (d i : Nat), i + d = a.length → Ev (fun k => wickerref02_texts.l0 k a b (i : Int)) (decide (a.drop i = b.drop i)) := by
  intro d
  induction d with
  | zero =>
    intro i hi
    refine ev_nowS fun k => ?_
    rw [wickerref02_texts.l0, if_neg (by omega), List.drop_eq_nil_of_le (by omega), List.drop_eq_nil_of_le (by omega)]; rfl
  | succ d ih =>
    intro i hi
    have h1 : i < a.length := by omega
    have h2 : i < b.length := by omega
    by_cases e : a[i] = b[i]
    · refine Ev.step (fun k => ?_) (Ev.eq (ih (i + 1) (by omega)) ?_)
      · rw [wickerref02_texts.l0, if_pos (by omega), if_pos (by omega), if_pos (by omega), rdT a i h1, rdT b i h2, if_pos (by rw [e]), next64 (by omega)]
      · congr 1; rw [drop_eq_cons h1 h2]; simp [e]
    · refine ev_nowS fun k => ?_
      rw [wickerref02_texts.l0, if_pos (by omega), if_pos (by omega), if_pos (by omega), rdT a i h1, rdT b i h2, if_neg (fun h => e ((ba_list _ _).1 h)), decide_eq_false (fun h => e ((drop_eq_cons h1 h2).1 h).1)]
theorem rtexts_f (a b : List ByteArray) (ha : a.length ≤ 1000000) : Ev (fun k => wickerref02_texts.f k a b) (decide (a = b)) := by
  unfold wickerref02_texts.f
  by_cases hl : a.length = b.length
  · have := rtexts_l0 a b ha hl a.length 0 (by omega)
    exact Ev.pos (by omega) this
  · rw [decide_eq_false (fun h => hl (by rw [h]))]
    exact Ev.neg (by omega) (Ev.now _)
theorem ralike_l0 (l0 l1 : List ByteArray) (a2 : Int) (l3 : List GRule) (m0 m1 : List ByteArray) (b2 : Int) (m3 : List GRule) (hn : l3.length ≤ 1000000) (hok : l3.all ruleOk = true) (hok2 : m3.all ruleOk = true) (hl : l3.length = m3.length) :
    ∀ (d i : Nat), i + d = l3.length → Ev (fun k => wickerref02_Alike.l0 k (i : Int) l0 l1 a2 (l3.map ofR) m0 m1 b2 (m3.map ofR)) (decide (l3.drop i = m3.drop i)) := by
  intro d
  induction d with
  | zero =>
    intro i hi
    refine ev_nowS fun k => ?_
    rw [wickerref02_Alike.l0, List.length_map, if_neg (by omega), List.drop_eq_nil_of_le (by omega), List.drop_eq_nil_of_le (by omega)]; rfl
  | succ d ih =>
    intro i hi
    have h1 : i < l3.length := by omega
    have h2 : i < m3.length := by omega
    have r1 := ruleOk_len (List.all_eq_true.1 hok _ (List.getElem_mem h1))
    have r2 := ruleOk_len (List.all_eq_true.1 hok2 _ (List.getElem_mem h2))
    refine Ev.step (f := fun k => (wickerref02_Same.f k l3[i].f0 l3[i].f1 m3[i].f0 m3[i].f1).bind fun t => if t = true then wickerref02_Alike.l0 k ((i + 1 : Nat) : Int) l0 l1 a2 (l3.map ofR) m0 m1 b2 (m3.map ofR) else some false) (fun k => ?_) (Ev.bind (same_f l3[i] m3[i] r1 r2) ?_)
    · rw [wickerref02_Alike.l0, List.length_map, List.length_map, if_pos (by omega), if_pos (by omega), if_pos (by omega), rdS l3 i h1, rdS m3 i h2, next64 (by omega)]; rfl
    · by_cases e : l3[i] = m3[i]
      · refine Ev.pos (decide_eq_true e) (Ev.eq (ih (i + 1) (by omega)) ?_)
        congr 1; rw [drop_eq_cons h1 h2]; simp [e]
      · refine Ev.neg (by simp [e]) (Ev.eq (Ev.now _) ?_)
        rw [decide_eq_false (fun h => e ((drop_eq_cons h1 h2).1 h).1)]
theorem ralike_f (l0 l1 : List ByteArray) (a2 : Int) (l3 : List GRule) (m0 m1 : List ByteArray) (b2 : Int) (m3 : List GRule) (hok : gramOk l0 l1 a2 l3 = true) (hok2 : gramOk m0 m1 b2 m3 = true) : Ev (fun k => wickerref02_Alike.f k l0 l1 a2 (l3.map ofR) m0 m1 b2 (m3.map ofR)) (alikeB l0 l1 a2 l3 m0 m1 b2 m3) := by
  obtain ⟨b0, b1, b3, o3⟩ := gram_rules_okL hok
  obtain ⟨_, _, _, p3⟩ := gram_rules_okL hok2
  have no : ∀ (h : alikeB l0 l1 a2 l3 m0 m1 b2 m3 = false), Ev (fun k => wickerref02_Alike.j0 k true l0 l1 a2 (l3.map ofR) m0 m1 b2 (m3.map ofR)) (alikeB l0 l1 a2 l3 m0 m1 b2 m3) := fun h => by
    rw [h]; exact ev_nowS fun k => by rw [wickerref02_Alike.j0, if_pos rfl]
  unfold wickerref02_Alike.f
  by_cases e2 : a2 = b2
  · refine Ev.pos e2 (Ev.bind (rtexts_f l0 m0 b0) ?_)
    by_cases e0 : l0 = m0
    · refine Ev.pos (decide_eq_true e0) (Ev.bind (rtexts_f l1 m1 b1) ?_)
      by_cases e1 : l1 = m1
      · refine Ev.pos (decide_eq_true e1) ?_
        rw [List.length_map, List.length_map]
        by_cases el : l3.length = m3.length
        · refine Ev.step (fun k => ?_) (Ev.eq (ralike_l0 l0 l1 a2 l3 m0 m1 b2 m3 b3 o3 p3 el l3.length 0 (by omega)) ?_)
          · rw [wickerref02_Alike.j0, if_neg (by simp [el])]; rfl
          · unfold alikeB
            rw [List.drop_zero, List.drop_zero]
            congr 1
            exact propext ⟨fun h => ⟨e2, e0, e1, h⟩, fun h => h.2.2.2⟩
        · rw [show ((l3.length : Int) != (m3.length : Int)) = true from bne_iff_ne.2 (by omega)]
          exact no (decide_eq_false fun h => el (by rw [h.2.2.2]))
      · exact Ev.neg (by simp [e1]) (no (decide_eq_false fun h => e1 h.2.2.1))
    · exact Ev.neg (by simp [e0]) (no (decide_eq_false fun h => e0 h.2.1))
  · exact Ev.neg e2 (no (decide_eq_false fun h => e2 h.1))
theorem alike_self (l0 l1 : List ByteArray) (a2 : Int) (l3 : List GRule) : alikeB l0 l1 a2 l3 l0 l1 a2 l3 = true := decide_eq_true ⟨rfl, rfl, rfl, rfl⟩
end Go.Proofs.YtgdcnmpcfoomiaaDoor.G
end
section
set_option linter.unusedVariables false
set_option linter.unusedSimpArgs false
namespace Go.Proofs.YtgdcnmpcfoomiaaDoor.G
open Go Go.Proofs Go.RowKit Go.Proofs.YtgdcnmpcfoomiaaDoorW.PrintWords Go.Proofs.YtgdcnmpcfoomiaaDoorW.PrintLast Go.Proofs.YtgdcnmpcfoomiaaDoorW.PrintMore Go.Proofs.YtgdcnmpcfoomiaaDoor.Pure
theorem of_calls2 (A0 : Option Addr) (c0 : Nat) (l0 : List ByteArray) (A1 : Option Addr) (c1 : Nat) (l1 : List ByteArray) (a2 : Int) (A3 : Option Addr) (c3 : Nat) (l3 : List GRule) (hn : l3.length ≤ 1000000) (hok : l3.all ruleOk = true) (w : World) (hr3 : Kd.C k35 w A3 l3.length l3) :
    Calls Tryd.prog 11 #[.agg #[.slice A0 l0.length c0, .slice A1 l1.length c1, .int .i64 a2, .slice A3 l3.length c3]] w fun e w' => ∃ Ao co, e = .returned (.agg #[.slice A0 l0.length c0, .slice A1 l1.length c1, .int .i64 a2, .slice Ao l3.length co]) ∧ Kd.C k38 w' Ao l3.length (l3.map ofR) ∧ l3.length ≤ co ∧ Below w.heap.size w w' := by
  refine (of_calls A0 c0 l0 A1 c1 l1 a2 A3 c3 l3 hn hok w hr3).mono ?_
  rintro e w' ⟨v3, rfl, hrow, hb⟩
  obtain ⟨Ao, co, rfl, hco, hC⟩ := Kd.R_reads hrow
  rw [List.length_map] at hco hC ⊢
  exact ⟨Ao, co, rfl, hC, hco, hb⟩
theorem ofRule_calls2 (r : GRule) (R : Option Addr) (rd : Nat) (W : World) (hr : Kd.C (Kd.int .i64) W R r.f1.length r.f1) (hc : r.f1.length ≤ rd) (hl : r.f1.length ≤ 1000000) :
    Calls Tryd.prog 23 #[.agg #[.int .i64 r.f0, .slice R r.f1.length rd]] W fun e w' => ∃ Y ey, e = .returned (.agg #[.int .i64 r.f0, .slice Y r.f1.length ey]) ∧ Kd.C (Kd.int .i64) w' Y r.f1.length r.f1 ∧ r.f1.length ≤ ey ∧ Below W.heap.size W w' := by
  refine (ofRule_calls r.f0 R rd r.f1 W hr hc hl).mono ?_
  rintro e w' ⟨u1, rfl, hrow, hb⟩
  obtain ⟨Y, ey, rfl, hco, hC⟩ := Kd.R_reads hrow
  exact ⟨Y, ey, rfl, hC, hco, hb⟩
theorem refind_calls (l3 : List GRule) (hn : l3.length ≤ 1000000) (hok : l3.all ruleOk = true) (r : GRule) (hr : r.f1.length ≤ 1000000) (Ao : Option Addr) (co : Nat) (ho : l3.length ≤ co) (Y : Option Addr) (ey : Nat) (hy : r.f1.length ≤ ey) (W : World) (hm : Kd.C k38 W Ao l3.length (l3.map ofR)) (hY : Kd.C (Kd.int .i64) W Y r.f1.length r.f1) :
    Calls Tryd.prog 22 #[.slice Ao l3.length co, .agg #[.int .i64 r.f0, .slice Y r.f1.length ey]] W fun e w' => e = .returned (.int .i64 (findR r l3)) ∧ Below W.heap.size W w' := by
  obtain ⟨K, hK⟩ := Pure.Ev.out (refind_f l3 hn hok r hr)
  have := wickerref02_Find.calls K Ao co (l3.map ofR) r.f0 Y ey r.f1 _ W (by rw [List.length_map]; exact hm) (by rw [List.length_map]; exact ho) hY hy (hK K (Nat.le_refl _))
  rw [List.length_map] at this
  exact this
theorem ralike_calls (A0 : Option Addr) (c0 : Nat) (l0 : List ByteArray) (A1 : Option Addr) (c1 : Nat) (l1 : List ByteArray) (a2 : Int) (Ao : Option Addr) (co : Nat) (l3 : List GRule) (B0 : Option Addr) (d0 : Nat) (m0 : List ByteArray) (B1 : Option Addr) (d1 : Nat) (m1 : List ByteArray) (b2 : Int) (Po : Option Addr) (po : Nat) (m3 : List GRule) (hok : gramOk l0 l1 a2 l3 = true) (hok2 : gramOk m0 m1 b2 m3 = true) (h0 : l0.length ≤ c0) (h1 : l1.length ≤ c1) (ho : l3.length ≤ co) (g0 : m0.length ≤ d0) (g1 : m1.length ≤ d1) (go : m3.length ≤ po)
    (W : World) (hr0 : Kd.C Kd.string W A0 l0.length l0) (hr1 : Kd.C Kd.string W A1 l1.length l1) (hm : Kd.C k38 W Ao l3.length (l3.map ofR)) (hs0 : Kd.C Kd.string W B0 m0.length m0) (hs1 : Kd.C Kd.string W B1 m1.length m1) (hp : Kd.C k38 W Po m3.length (m3.map ofR)) :
    Calls Tryd.prog 25 #[.agg #[.slice A0 l0.length c0, .slice A1 l1.length c1, .int .i64 a2, .slice Ao l3.length co], .agg #[.slice B0 m0.length d0, .slice B1 m1.length d1, .int .i64 b2, .slice Po m3.length po]] W fun e w' => e = .returned (.bool (alikeB l0 l1 a2 l3 m0 m1 b2 m3)) ∧ Below W.heap.size W w' := by
  obtain ⟨K, hK⟩ := Pure.Ev.out (ralike_f l0 l1 a2 l3 m0 m1 b2 m3 hok hok2)
  have := wickerref02_Alike.calls K A0 c0 l0 A1 c1 l1 a2 Ao co (l3.map ofR) B0 d0 m0 B1 d1 m1 b2 Po po (m3.map ofR) _ W hr0 h0 hr1 h1 (by rw [List.length_map]; exact hm) (by rw [List.length_map]; exact ho) hs0 g0 hs1 g1 (by rw [List.length_map]; exact hp) (by rw [List.length_map]; exact go) (hK K (Nat.le_refl _))
  rw [List.length_map, List.length_map] at this
  exact this
theorem gclone_calls2 (A0 : Option Addr) (c0 : Nat) (l0 : List ByteArray) (A1 : Option Addr) (c1 : Nat) (l1 : List ByteArray) (a2 : Int) (A3 : Option Addr) (c3 : Nat) (l3 : List GRule) (hok : gramOk l0 l1 a2 l3 = true) (h0 : l0.length ≤ c0) (h1 : l1.length ≤ c1) (h3 : l3.length ≤ c3)
    (w : World) (hr0 : Kd.C Kd.string w A0 l0.length l0) (hr1 : Kd.C Kd.string w A1 l1.length l1) (hr3 : Kd.C k35 w A3 l3.length l3) :
    Calls Tryd.prog 26 #[.agg #[.slice A0 l0.length c0, .slice A1 l1.length c1, .int .i64 a2, .slice A3 l3.length c3]] w fun e w' => ∃ X0 e0 X1 e1 X3 e3, e = .returned (.agg #[.slice X0 l0.length e0, .slice X1 l1.length e1, .int .i64 a2, .slice X3 l3.length e3]) ∧ (Kd.C Kd.string w' X0 l0.length l0 ∧ l0.length ≤ e0) ∧ (Kd.C Kd.string w' X1 l1.length l1 ∧ l1.length ≤ e1) ∧ (Kd.C k35 w' X3 l3.length l3 ∧ l3.length ≤ e3) ∧ Below w.heap.size w w' := by
  refine (gclone_calls A0 c0 l0 A1 c1 l1 a2 A3 c3 l3 hok h0 h1 h3 w hr0 hr1 hr3).mono ?_
  rintro e w' ⟨v0, v1, v3, rfl, hR0, hR1, hR3, hb⟩
  obtain ⟨X0, e0, rfl, k0, hC0⟩ := Kd.R_reads hR0
  obtain ⟨X1, e1, rfl, k1, hC1⟩ := Kd.R_reads hR1
  obtain ⟨X3, e3, rfl, k3, hC3⟩ := Kd.R_reads hR3
  exact ⟨X0, e0, X1, e1, X3, e3, rfl, ⟨hC0, k0⟩, ⟨hC1, k1⟩, ⟨hC3, k3⟩, hb⟩
structure InF (w : World) (A0 : Option Addr) (c0 : Nat) (l0 : List ByteArray) (A1 : Option Addr) (c1 : Nat) (l1 : List ByteArray) (a2 : Int) (A3 : Option Addr) (c3 : Nat) (l3 : List GRule) (B0 : Option Addr) (d0 : Nat) (m0 : List ByteArray) (B1 : Option Addr) (d1 : Nat) (m1 : List ByteArray) (b2 : Int) (B3 : Option Addr) (d3 : Nat) (m3 : List GRule) (r : GRule) (R : Option Addr) (rd : Nat) (W : World) : Prop where
  g : In2 w A0 c0 l0 A1 c1 l1 a2 A3 c3 l3 B0 d0 m0 B1 d1 m1 b2 B3 d3 m3 W
  rb : W.heap[w.heap.size + 1 + 1]? = some (.cells #[.int .i64 r.f0, .slice R r.f1.length rd] 35 (0, 0))
  rr : Kd.C (Kd.int .i64) W R r.f1.length r.f1
section
variable {w : World} {A0 : Option Addr} {c0 : Nat} {l0 : List ByteArray} {A1 : Option Addr} {c1 : Nat} {l1 : List ByteArray} {a2 : Int} {A3 : Option Addr} {c3 : Nat} {l3 : List GRule} {B0 : Option Addr} {d0 : Nat} {m0 : List ByteArray} {B1 : Option Addr} {d1 : Nat} {m1 : List ByteArray} {b2 : Int} {B3 : Option Addr} {d3 : Nat} {m3 : List GRule} {r : GRule} {R : Option Addr} {rd : Nat} {W W' : World}
theorem InF.step (h : InF w A0 c0 l0 A1 c1 l1 a2 A3 c3 l3 B0 d0 m0 B1 d1 m1 b2 B3 d3 m3 r R rd W) (hb : Below W.heap.size W W') : InF w A0 c0 l0 A1 c1 l1 a2 A3 c3 l3 B0 d0 m0 B1 d1 m1 b2 B3 d3 m3 r R rd W' := ⟨h.g.step hb, blk_below h.rb hb, Kd.C_below h.rr hb⟩
theorem InF.q0 (h : InF w A0 c0 l0 A1 c1 l1 a2 A3 c3 l3 B0 d0 m0 B1 d1 m1 b2 B3 d3 m3 r R rd W) : W.cell? ⟨w.heap.size + 1 + 1, 0, none⟩ = some (.int .i64 r.f0) := (blk_cell h.rb 0).trans rfl
theorem InF.q1 (h : InF w A0 c0 l0 A1 c1 l1 a2 A3 c3 l3 B0 d0 m0 B1 d1 m1 b2 B3 d3 m3 r R rd W) : W.cell? ⟨w.heap.size + 1 + 1, 1, none⟩ = some (.slice R r.f1.length rd) := (blk_cell h.rb 1).trans rfl
theorem InF.ga0 (h : InF w A0 c0 l0 A1 c1 l1 a2 A3 c3 l3 B0 d0 m0 B1 d1 m1 b2 B3 d3 m3 r R rd W) : Kd.C Kd.string W A0 l0.length l0 := h.g.a.2.1
theorem InF.ga1 (h : InF w A0 c0 l0 A1 c1 l1 a2 A3 c3 l3 B0 d0 m0 B1 d1 m1 b2 B3 d3 m3 r R rd W) : Kd.C Kd.string W A1 l1.length l1 := h.g.a.2.2.1
theorem InF.ga3 (h : InF w A0 c0 l0 A1 c1 l1 a2 A3 c3 l3 B0 d0 m0 B1 d1 m1 b2 B3 d3 m3 r R rd W) : Kd.C k35 W A3 l3.length l3 := h.g.a.2.2.2
theorem InF.gb0 (h : InF w A0 c0 l0 A1 c1 l1 a2 A3 c3 l3 B0 d0 m0 B1 d1 m1 b2 B3 d3 m3 r R rd W) : Kd.C Kd.string W B0 m0.length m0 := h.g.b.2.1
theorem InF.gb1 (h : InF w A0 c0 l0 A1 c1 l1 a2 A3 c3 l3 B0 d0 m0 B1 d1 m1 b2 B3 d3 m3 r R rd W) : Kd.C Kd.string W B1 m1.length m1 := h.g.b.2.2.1
theorem InF.gb3 (h : InF w A0 c0 l0 A1 c1 l1 a2 A3 c3 l3 B0 d0 m0 B1 d1 m1 b2 B3 d3 m3 r R rd W) : Kd.C k35 W B3 m3.length m3 := h.g.b.2.2.2
end
structure InM (w : World) (A0 : Option Addr) (c0 : Nat) (l0 : List ByteArray) (A1 : Option Addr) (c1 : Nat) (l1 : List ByteArray) (a2 : Int) (A3 : Option Addr) (c3 : Nat) (l3 : List GRule) (B0 : Option Addr) (d0 : Nat) (m0 : List ByteArray) (B1 : Option Addr) (d1 : Nat) (m1 : List ByteArray) (b2 : Int) (B3 : Option Addr) (d3 : Nat) (m3 : List GRule) (r : GRule) (R : Option Addr) (rd : Nat) (gm : Nat) (Ao : Option Addr) (co : Nat) (W : World) : Prop where
  f : InF w A0 c0 l0 A1 c1 l1 a2 A3 c3 l3 B0 d0 m0 B1 d1 m1 b2 B3 d3 m3 r R rd W
  mb : W.heap[gm]? = some (.cells #[.slice A0 l0.length c0, .slice A1 l1.length c1, .int .i64 a2, .slice Ao l3.length co] 30 (0, 0))
  mr : Kd.C k38 W Ao l3.length (l3.map ofR)
section
variable {w : World} {A0 : Option Addr} {c0 : Nat} {l0 : List ByteArray} {A1 : Option Addr} {c1 : Nat} {l1 : List ByteArray} {a2 : Int} {A3 : Option Addr} {c3 : Nat} {l3 : List GRule} {B0 : Option Addr} {d0 : Nat} {m0 : List ByteArray} {B1 : Option Addr} {d1 : Nat} {m1 : List ByteArray} {b2 : Int} {B3 : Option Addr} {d3 : Nat} {m3 : List GRule} {r : GRule} {R : Option Addr} {rd gm : Nat} {Ao : Option Addr} {co : Nat} {W W' : World}
theorem InM.step (h : InM w A0 c0 l0 A1 c1 l1 a2 A3 c3 l3 B0 d0 m0 B1 d1 m1 b2 B3 d3 m3 r R rd gm Ao co W) (hb : Below W.heap.size W W') : InM w A0 c0 l0 A1 c1 l1 a2 A3 c3 l3 B0 d0 m0 B1 d1 m1 b2 B3 d3 m3 r R rd gm Ao co W' := ⟨h.f.step hb, blk_below h.mb hb, Kd.C_below h.mr hb⟩
theorem InM.u0 (h : InM w A0 c0 l0 A1 c1 l1 a2 A3 c3 l3 B0 d0 m0 B1 d1 m1 b2 B3 d3 m3 r R rd gm Ao co W) : W.cell? ⟨gm, 0, none⟩ = some (.slice A0 l0.length c0) := (blk_cell h.mb 0).trans rfl
theorem InM.u1 (h : InM w A0 c0 l0 A1 c1 l1 a2 A3 c3 l3 B0 d0 m0 B1 d1 m1 b2 B3 d3 m3 r R rd gm Ao co W) : W.cell? ⟨gm, 1, none⟩ = some (.slice A1 l1.length c1) := (blk_cell h.mb 1).trans rfl
theorem InM.u2 (h : InM w A0 c0 l0 A1 c1 l1 a2 A3 c3 l3 B0 d0 m0 B1 d1 m1 b2 B3 d3 m3 r R rd gm Ao co W) : W.cell? ⟨gm, 2, none⟩ = some (.int .i64 a2) := (blk_cell h.mb 2).trans rfl
theorem InM.u3 (h : InM w A0 c0 l0 A1 c1 l1 a2 A3 c3 l3 B0 d0 m0 B1 d1 m1 b2 B3 d3 m3 r R rd gm Ao co W) : W.cell? ⟨gm, 3, none⟩ = some (.slice Ao l3.length co) := (blk_cell h.mb 3).trans rfl
end
set_option maxHeartbeats 16000000 in
set_option maxRecDepth 100000 in
theorem gramFinds_calls (w : World) (hG : Laid w) (A0 : Option Addr) (c0 : Nat) (l0 : List ByteArray) (A1 : Option Addr) (c1 : Nat) (l1 : List ByteArray) (a2 : Int) (A3 : Option Addr) (c3 : Nat) (l3 : List GRule) (hg : GIn l0 l1 a2 l3) (h0 : l0.length ≤ c0) (h1 : l1.length ≤ c1) (h3 : l3.length ≤ c3) (hr0 : Kd.C Kd.string w A0 l0.length l0) (hr1 : Kd.C Kd.string w A1 l1.length l1) (hr3 : Kd.C k35 w A3 l3.length l3)
    (B0 : Option Addr) (d0 : Nat) (m0 : List ByteArray) (B1 : Option Addr) (d1 : Nat) (m1 : List ByteArray) (b2 : Int) (B3 : Option Addr) (d3 : Nat) (m3 : List GRule) (hh : GIn m0 m1 b2 m3) (g0 : m0.length ≤ d0) (g1 : m1.length ≤ d1) (g3 : m3.length ≤ d3) (hs0 : Kd.C Kd.string w B0 m0.length m0) (hs1 : Kd.C Kd.string w B1 m1.length m1) (hs3 : Kd.C k35 w B3 m3.length m3)
    (left : Int) (hleft : (Lit.int .i64 left).wf = true) (r : GRule) (R : Option Addr) (rd : Nat) (hri : symOk r.f0 = true ∧ r.f1.length ≤ 140737488355328 ∧ ∀ s ∈ r.f1, symOk s = true) (hrd : r.f1.length ≤ rd) (hrr : Kd.C (Kd.int .i64) w R r.f1.length r.f1) :
    Calls Tryd.prog 5 #[.agg #[.slice A0 l0.length c0, .slice A1 l1.length c1, .int .i64 a2, .slice A3 l3.length c3], .agg #[.slice B0 m0.length d0, .slice B1 m1.length d1, .int .i64 b2, .slice B3 m3.length d3], .int .i64 left, .agg #[.int .i64 r.f0, .slice R r.f1.length rd]] w fun e w' => e = .returned (.bool true) ∧ Below w.heap.size w w' := by
  have hu := Tryd.underlying25
  have hu2 := Tryd.underlying30
  have hu3 := Tryd.underlying35
  have hu4 := Tryd.underlying38
  have HG := Lib.hid hG
  obtain ⟨KS, hKS⟩ := Pure.Ev.out (small_f l0 l1 a2 l3 hg)
  have HKS := Lib.hid (hKS KS (Nat.le_refl _))
  obtain ⟨KT, hKT⟩ := Pure.Ev.out (small_f m0 m1 b2 m3 hh)
  have HKT := Lib.hid (hKT KT (Nat.le_refl _))
  obtain ⟨KA, hKA⟩ := Pure.Ev.out awake2
  have HAW := Lib.hid (hKA KA (Nat.le_refl _))
  have hbx : (((w.alloc (.cells #[.slice A0 l0.length c0, .slice A1 l1.length c1, .int .i64 a2, .slice A3 l3.length c3] 25)).alloc (.cells #[.slice B0 m0.length d0, .slice B1 m1.length d1, .int .i64 b2, .slice B3 m3.length d3] 25)).alloc (.cells #[.int .i64 r.f0, .slice R r.f1.length rd] 35)).heap[w.heap.size + 1]? = some (.cells #[.slice B0 m0.length d0, .slice B1 m1.length d1, .int .i64 b2, .slice B3 m3.length d3] 25 (0, 0)) := by
    have := blk_alloc (blk_new (w.alloc (.cells #[.slice A0 l0.length c0, .slice A1 l1.length c1, .int .i64 a2, .slice A3 l3.length c3] 25)) (.cells #[.slice B0 m0.length d0, .slice B1 m1.length d1, .int .i64 b2, .slice B3 m3.length d3] 25)) (.cells #[.int .i64 r.f0, .slice R r.f1.length rd] 35)
    rwa [show (w.alloc (.cells #[.slice A0 l0.length c0, .slice A1 l1.length c1, .int .i64 a2, .slice A3 l3.length c3] 25)).heap.size = w.heap.size + 1 by simp] at this
  have hby : (((w.alloc (.cells #[.slice A0 l0.length c0, .slice A1 l1.length c1, .int .i64 a2, .slice A3 l3.length c3] 25)).alloc (.cells #[.slice B0 m0.length d0, .slice B1 m1.length d1, .int .i64 b2, .slice B3 m3.length d3] 25)).alloc (.cells #[.int .i64 r.f0, .slice R r.f1.length rd] 35)).heap[w.heap.size + 1 + 1]? = some (.cells #[.int .i64 r.f0, .slice R r.f1.length rd] 35 (0, 0)) := by
    have := blk_new ((w.alloc (.cells #[.slice A0 l0.length c0, .slice A1 l1.length c1, .int .i64 a2, .slice A3 l3.length c3] 25)).alloc (.cells #[.slice B0 m0.length d0, .slice B1 m1.length d1, .int .i64 b2, .slice B3 m3.length d3] 25)) (.cells #[.int .i64 r.f0, .slice R r.f1.length rd] 35)
    rwa [show ((w.alloc (.cells #[.slice A0 l0.length c0, .slice A1 l1.length c1, .int .i64 a2, .slice A3 l3.length c3] 25)).alloc (.cells #[.slice B0 m0.length d0, .slice B1 m1.length d1, .int .i64 b2, .slice B3 m3.length d3] 25)).heap.size = w.heap.size + 1 + 1 by simp] at this
  have hB0 : Below w.heap.size w (((w.alloc (.cells #[.slice A0 l0.length c0, .slice A1 l1.length c1, .int .i64 a2, .slice A3 l3.length c3] 25)).alloc (.cells #[.slice B0 m0.length d0, .slice B1 m1.length d1, .int .i64 b2, .slice B3 m3.length d3] 25)).alloc (.cells #[.int .i64 r.f0, .slice R r.f1.length rd] 35)) := (((Below.refl _ w).alloc (Nat.le_refl _) _).alloc (by simp) _).alloc (by simp; omega) _
  have hI : InF w A0 c0 l0 A1 c1 l1 a2 A3 c3 l3 B0 d0 m0 B1 d1 m1 b2 B3 d3 m3 r R rd (((w.alloc (.cells #[.slice A0 l0.length c0, .slice A1 l1.length c1, .int .i64 a2, .slice A3 l3.length c3] 25)).alloc (.cells #[.slice B0 m0.length d0, .slice B1 m1.length d1, .int .i64 b2, .slice B3 m3.length d3] 25)).alloc (.cells #[.int .i64 r.f0, .slice R r.f1.length rd] 35)) :=
    ⟨⟨⟨blk_alloc (blk_alloc (blk_new w _) _) _, Kd.C_below hr0 hB0, Kd.C_below hr1 hB0, Kd.C_below hr3 hB0⟩, ⟨hbx, Kd.C_below hs0 hB0, Kd.C_below hs1 hB0, Kd.C_below hs3 hB0⟩, hB0⟩, hby, Kd.C_below hrr hB0⟩
  have HH := Lib.hid hg
  have HH2 := Lib.hid hh
  have HRI := Lib.hid hri
  have hz0 := hI.g.a0
  have hz1 := hI.g.a1
  have hz2 := hI.g.a2_
  have hz3 := hI.g.a3
  have HI := Lib.hid hI
  clear hG hKS hKT hKA hr0 hr1 hr3 hs0 hs1 hs3 hrr hg hh hbx hby hB0 hI hri hleft
  go_enter Tryd.func5, Tryd.ntmps5
  go_wp2_with fail
  refine (wickerlaw02_Small.calls KS A0 c0 l0 A1 c1 l1 a2 A3 c3 l3 _ _ HI.out.ga0 h0 HI.out.ga1 h1 HI.out.ga3 h3 HKS.out).mono ?_
  rintro e w2 ⟨rfl, hb2⟩
  have hI2 := HI.out.step hb2
  clear hb2 HI hz0 hz1 hz2 hz3
  cases hs : smallB l0 l1 l3 with
  | false =>
    have HI2 := Lib.hid hI2
    clear hI2 hs
    go_wp2_with fail
    refine (wickerlaw02_Awake.calls KA true _ (Laid.below HG.out HI2.out.g.l) HAW.out).mono ?_
    rintro e w3 ⟨rfl, hb3⟩
    have hB3 := HI2.out.g.l.trans (hb3.mono HI2.out.g.l.size)
    clear hb3
    go_wp2
    go_ret
    exact ⟨rfl, hB3⟩
  | true =>
    have hsm := small_ok HH.out hs
    have HSM := Lib.hid hsm
    have y0 := hI2.g.b0
    have y1 := hI2.g.b1
    have y2 := hI2.g.b2_
    have y3 := hI2.g.b3
    have HI2 := Lib.hid hI2
    clear hI2 hs hsm
    go_wp2_with fail
    refine (wickerlaw02_Small.calls KT B0 d0 m0 B1 d1 m1 b2 B3 d3 m3 _ _ HI2.out.gb0 g0 HI2.out.gb1 g1 HI2.out.gb3 g3 HKT.out).mono ?_
    rintro e w3 ⟨rfl, hb3⟩
    have hI3 := HI2.out.step hb3
    clear hb3 HI2 y0 y1 y2 y3
    cases ht : smallB m0 m1 m3 with
    | false =>
      have HI3 := Lib.hid hI3
      clear hI3 ht
      go_wp2_with fail
      refine (wickerlaw02_Awake.calls KA true _ (Laid.below HG.out HI3.out.g.l) HAW.out).mono ?_
      rintro e w4 ⟨rfl, hb4⟩
      have hB4 := HI3.out.g.l.trans (hb4.mono HI3.out.g.l.size)
      clear hb4
      go_wp2
      go_ret
      exact ⟨rfl, hB4⟩
    | true =>
      have htm := small_ok HH2.out ht
      have HTM := Lib.hid htm
      have q0 := hI3.q0
      have q1 := hI3.q1
      have hl64 : r.f1.length ≤ 140737488355328 := HRI.out.2.1
      clear ht htm
      by_cases h300 : 300 < r.f1.length
      · have hd : decide ((300 : Int) < (r.f1.length : Int)) = true := decide_eq_true (by omega)
        have HI3 := Lib.hid hI3
        clear hI3 h300
        go_wp2_with fail
        refine (wickerlaw02_Awake.calls KA true _ (Laid.below HG.out HI3.out.g.l) HAW.out).mono ?_
        rintro e w4 ⟨rfl, hb4⟩
        have hB4 := HI3.out.g.l.trans (hb4.mono HI3.out.g.l.size)
        clear hb4
        go_wp2
        go_ret
        exact ⟨rfl, hB4⟩
      have hd : decide ((300 : Int) < (r.f1.length : Int)) = false := decide_eq_false (by omega)
      have HRL : Hid (r.f1.length ≤ 1000000) := Lib.hid (by omega)
      have OKG := Lib.hid HSM.out.1
      have OKH := Lib.hid HTM.out.1
      have KG := Lib.hid (gram_rules_okL OKG.out)
      have KH := Lib.hid (gram_rules_okL OKH.out)
      have z0 := hI3.g.a0
      have z1 := hI3.g.a1
      have z2 := hI3.g.a2_
      have z3 := hI3.g.a3
      have HI3 := Lib.hid hI3
      clear hI3 h300 hl64
      go_wp2_with fail
      refine (of_calls2 A0 c0 l0 A1 c1 l1 a2 A3 c3 l3 KG.out.2.2.1 KG.out.2.2.2 _ HI3.out.ga3).mono ?_
      rintro e w4 ⟨Ao, co, rfl, hC4, hco, hb4⟩
      have hI4 := HI3.out.step hb4
      have hI5 : InM w A0 c0 l0 A1 c1 l1 a2 A3 c3 l3 B0 d0 m0 B1 d1 m1 b2 B3 d3 m3 r R rd w4.heap.size Ao co (w4.alloc (.cells #[.slice A0 l0.length c0, .slice A1 l1.length c1, .int .i64 a2, .slice Ao l3.length co] 30)) := ⟨hI4.step ((Below.refl _ _).alloc (Nat.le_refl _) _), blk_new w4 _, Kd.C_alloc hC4 _⟩
      have x3 := hI5.u3
      have HI5 := Lib.hid hI5
      have HCO := Lib.hid hco
      clear z0 z1 z2 z3 q0 q1 hd HI3 hI4 hI5 hC4 hb4 hco
      have hn3 : l3.length ≤ 1000000 := KG.out.2.2.1
      go_wp2_with fail
      clear x3
      generalize w4.alloc (.cells #[.slice A0 l0.length c0, .slice A1 l1.length c1, .int .i64 a2, .slice Ao l3.length co] 30) = wB at *
      generalize w4.heap.size = gm at *
      have hwB : w.heap.size ≤ wB.heap.size := HI5.out.f.g.l.size
      go_loopw [10, 35] (fun v i wr => ∃ j : Nat, j ≤ l3.length ∧ i = .int .i64 j ∧ Hid (Kd.R (Kd.int .i64) 3 wr wB.heap.size (fun _ => True) v (idxT left l3 j)) ∧ Below wB.heap.size wB wr) (fun _ i _ => l3.length - (intOf i).toNat)
      case atStart => exact ⟨0, Nat.zero_le _, rfl, Lib.hid (Kd.R_nil _ _ _ _ _), Below.refl _ _⟩
      case round =>
        obtain ⟨j, hj, rfl, HW, hB⟩ := hrel
        obtain ⟨v10, rfl⟩ : ∃ v10, v10 = u10 := ⟨_, rfl⟩
        by_cases hjl : j < l3.length
        · obtain ⟨ad, M1, e1, e0, hx0, hx1, hl1, hi1⟩ := at_T38 (Kd.C_below HI5.out.mr hB) (j : Int) (by omega) (by omega)
          subst e0
          obtain ⟨s, hs⟩ : ∃ s, s = l3[j] := ⟨_, rfl⟩
          rw [rdS l3 j hjl, ← hs] at hx0 hx1 hl1 hi1
          rw [Int.toNat_natCast] at hx0 hx1
          have hy0 : wr.cell? (ad.add (j * 2)) = some (.int .i64 s.f0) := hx0
          have hy1 : wr.cell? ⟨(ad.add (j * 2)).block, (ad.add (j * 2)).off + 1, none⟩ = some (.slice M1 s.f1.length e1) := hx1
          have hle := idxT_le left l3 j
          have HSJ := Lib.hid hs
          clear hx0 hx1 hl1 hi1 hs
          by_cases e : s.f0 = left
          · have q : (s.f0 == left) = true := beq_iff_eq.2 e
            have HE : Hid (idxT left l3 (j + 1) = idxT left l3 j ++ [(j : Int)]) := Lib.hid (idxT_yes hjl (by rw [← HSJ.out]; exact e))
            have HB1 : Hid (Below wB.heap.size wB (wr.alloc (.cells #[.int .i64 s.f0, .slice M1 s.f1.length e1] 38))) := Lib.hid (hB.alloc hB.size _)
            have HW1 : Hid (Kd.R (Kd.int .i64) 3 (wr.alloc (.cells #[.int .i64 s.f0, .slice M1 s.f1.length e1] 38)) wB.heap.size (fun _ => True) v10 (idxT left l3 j)) := Lib.hid (Kd.R_alloc HW.out _)
            clear e
            go_wp2_with (((with_reducible refine gate_dst (N := 47) rfl ?_); refine Kd.R_append (Kd.int .i64) (w0 := wB) wB.heap.size rfl (.tmp 44) (.tmp 46) 36 3 (.int .i64 0) 8 rfl Tryd.underlying36 info3 rfl (by decide) (by omega) v10 (idxT left l3 j) (j : Int) [.int .i64 j] (fun _ => True) (fun _ => False) rfl ?aX ?aP (fun _ hk => hk.elim) ?aF ?aO ?aB ?aS ?aL ?_; (case aP => exact rfl); (case aX => first | rfl | (simp; done) | (go_simp; done) | (go_simp; simp; done)); (case aF => exact (fun _ _ => trivial)); (case aO => first | exact Kd.R_alloc HW1.out _ | exact HW1.out); (case aB => first | exact HB1.out.alloc HB1.out.size _ | exact HB1.out); (case aS => first | exact (HB1.out.alloc HB1.out.size _).size | exact HB1.out.size); (case aL => omega); intro v2 w6 ho hb hg hat; clear hg hat))
            go_roundw
            case rel => exact ⟨j + 1, by omega, by go_num, Lib.hid (by rw [HE.out]; exact ho), hb⟩
            case measure => simp [intOf]; omega
          · have q : (s.f0 == left) = false := beq_eq_false_iff_ne.2 e
            have HE : Hid (idxT left l3 (j + 1) = idxT left l3 j) := Lib.hid (idxT_no hjl (by rw [← HSJ.out]; exact e))
            clear e
            go_wp2
            go_roundw
            case rel => exact ⟨j + 1, by omega, by go_num, Lib.hid (by rw [HE.out]; exact Kd.R_alloc HW.out _), hB.alloc hB.size _⟩
            case measure => simp [intOf]; omega
        · obtain rfl : j = l3.length := by omega
          have hIw := HI5.out.step hB
          obtain ⟨KO, hKO⟩ := Pure.Ev.out (gof_f l0 l1 a2 l3 left hn3)
          have HKO := Lib.hid (hKO KO (Nat.le_refl _))
          have z0 := hIw.f.g.a0
          have z1 := hIw.f.g.a1
          have z2 := hIw.f.g.a2_
          have z3 := hIw.f.g.a3
          have HIW := Lib.hid hIw
          clear hKO hIw hB hj hjl
          go_wp2_with fail
          refine (gram_Grammar_Of.calls KO A0 c0 l0 A1 c1 l1 a2 A3 c3 l3 left _ _ HIW.out.f.ga0 h0 HIW.out.f.ga1 h1 HIW.out.f.ga3 h3 HKO.out).mono ?_
          rintro e w7 ⟨v7, rfl, hR7, hb7⟩
          have hI7 := HIW.out.step hb7
          have hW7 := Kd.R_below HW.out hb7
          have hxl := idxT_le left l3 l3.length
          generalize idxT left l3 l3.length = xs at *
          obtain ⟨La, lc, rfl, hlc, hLC⟩ := Kd.R_reads hR7
          obtain ⟨Wa, wc, ew, hwc, hWC⟩ := Kd.R_reads hW7
          subst ew
          have HLC := Lib.hid hLC
          have HWC := Lib.hid hWC
          have HI7 := Lib.hid hI7
          have hxm : xs.length ≤ 1000000 := by omega
          clear z0 z1 z2 z3 HIW hb7 hI7 hW7 hR7 HW hLC hWC HKO hxl
          go_wp2_with fail
          go_loopw [59] (fun i wx => ∃ j : Nat, j ≤ xs.length ∧ i = .int .i64 j ∧ Below w7.heap.size w7 wx) (fun i _ => xs.length - (intOf i).toNat)
          case atStart => exact ⟨0, Nat.zero_le _, rfl, Below.refl _ _⟩
          case round =>
            obtain ⟨j, hj, rfl, hB⟩ := hrel
            by_cases hjl : j < xs.length
            · obtain ⟨ad, e0, hx⟩ := Kd.at_int (Kd.C_below HLC.out hB) (j : Int) (by omega) (by omega)
              subst e0
              obtain ⟨ae, e0, hy⟩ := Kd.at_int (Kd.C_below HWC.out hB) (j : Int) (by omega) (by omega)
              subst e0
              rw [Int.toNat_natCast] at hx hy
              generalize Go.Proofs.YtgdcnmpcfoomiaaDoorW.PrintWords.rd xs (j : Int) = x at *
              have q : (x != x) = false := bne_self_eq_false x
              have hlt : (j : Int) < (xs.length : Int) := by omega
              go_wp2_with fail
              go_quiet (fail)
              go_wp2
              go_roundw
              case rel => exact ⟨j + 1, by omega, by go_num, pw_below_drewN hB _⟩
              case measure => simp [intOf]; omega
            · obtain rfl : j = xs.length := by omega
              have hI9 := HI7.out.step hB
              have HI9 := Lib.hid hI9
              clear hB hI9 HI7 HLC HWC hxm hlc hwc hj hjl
              go_wp2_with fail
              have hI : InM w A0 c0 l0 A1 c1 l1 a2 A3 c3 l3 B0 d0 m0 B1 d1 m1 b2 B3 d3 m3 r R rd gm Ao co wr.drew := HI9.out.step (Below.refl _ _).drew
              clear HI9
              have z0 := hI.f.g.a0
              have z1 := hI.f.g.a1
              have z2 := hI.f.g.a2_
              have z3 := hI.f.g.a3
              have y0 := hI.f.g.b0
              have y1 := hI.f.g.b1
              have y2 := hI.f.g.b2_
              have y3 := hI.f.g.b3
              have q0 := hI.f.q0
              have q1 := hI.f.q1
              have x0 := hI.u0
              have x1 := hI.u1
              have x2 := hI.u2
              have x3 := hI.u3
              go_region_held3 (fun w' => w'.cell? ⟨w.heap.size, 0, none⟩ = some (.slice A0 l0.length c0) ∧ w'.cell? ⟨w.heap.size, 1, none⟩ = some (.slice A1 l1.length c1) ∧ w'.cell? ⟨w.heap.size, 2, none⟩ = some (.int .i64 a2) ∧ w'.cell? ⟨w.heap.size, 3, none⟩ = some (.slice A3 l3.length c3) ∧ w'.cell? ⟨w.heap.size + 1, 0, none⟩ = some (.slice B0 m0.length d0) ∧ w'.cell? ⟨w.heap.size + 1, 1, none⟩ = some (.slice B1 m1.length d1) ∧ w'.cell? ⟨w.heap.size + 1, 2, none⟩ = some (.int .i64 b2) ∧ w'.cell? ⟨w.heap.size + 1, 3, none⟩ = some (.slice B3 m3.length d3) ∧ w'.cell? ⟨w.heap.size + 1 + 1, 0, none⟩ = some (.int .i64 r.f0) ∧ w'.cell? ⟨w.heap.size + 1 + 1, 1, none⟩ = some (.slice R r.f1.length rd) ∧ w'.cell? ⟨gm, 0, none⟩ = some (.slice A0 l0.length c0) ∧ w'.cell? ⟨gm, 1, none⟩ = some (.slice A1 l1.length c1) ∧ w'.cell? ⟨gm, 2, none⟩ = some (.int .i64 a2) ∧ w'.cell? ⟨gm, 3, none⟩ = some (.slice Ao l3.length co) ∧ InM w A0 c0 l0 A1 c1 l1 a2 A3 c3 l3 B0 d0 m0 B1 d1 m1 b2 B3 d3 m3 r R rd gm Ao co w')
                (first | (refine ⟨?_, ?_, ?_, ?_, ?_, ?_, ?_, ?_, ?_, ?_, ?_, ?_, ?_, ?_, ?_⟩ <;> assumption) | go_keep)
                (first | (go_at_call 19; (with_reducible refine (wickerlaw02_Awake.calls KA true _ (Laid.below HG.out hI.f.g.l) HAW.out).mono ?_); rintro e w8 ⟨rfl, hb⟩; replace hI := hI.step hb; (try replace hU := Kd.C_below hU hb); (try replace hP := Kd.C_below hP hb); (try replace hK0 := Kd.C_below hK0 hb); (try replace hK1 := Kd.C_below hK1 hb); (try replace hK3 := Kd.C_below hK3 hb); replace z0 := hI.f.g.a0; replace z1 := hI.f.g.a1; replace z2 := hI.f.g.a2_; replace z3 := hI.f.g.a3; replace y0 := hI.f.g.b0; replace y1 := hI.f.g.b1; replace y2 := hI.f.g.b2_; replace y3 := hI.f.g.b3; replace q0 := hI.f.q0; replace q1 := hI.f.q1; replace x0 := hI.u0; replace x1 := hI.u1; replace x2 := hI.u2; replace x3 := hI.u3; clear hb) | (go_at_call 21; (with_reducible refine (find_calls A0 c0 l0 A1 c1 l1 a2 A3 c3 l3 KG.out.2.2.1 KG.out.2.2.2 h3 r HRL.out R rd hrd _ hI.f.ga3 hI.f.rr).mono ?_); rintro e w8 ⟨rfl, hb⟩; replace hI := hI.step hb; (try replace hU := Kd.C_below hU hb); (try replace hP := Kd.C_below hP hb); (try replace hK0 := Kd.C_below hK0 hb); (try replace hK1 := Kd.C_below hK1 hb); (try replace hK3 := Kd.C_below hK3 hb); replace z0 := hI.f.g.a0; replace z1 := hI.f.g.a1; replace z2 := hI.f.g.a2_; replace z3 := hI.f.g.a3; replace y0 := hI.f.g.b0; replace y1 := hI.f.g.b1; replace y2 := hI.f.g.b2_; replace y3 := hI.f.g.b3; replace q0 := hI.f.q0; replace q1 := hI.f.q1; replace x0 := hI.u0; replace x1 := hI.u1; replace x2 := hI.u2; replace x3 := hI.u3; clear hb) | (go_at_call 23; (with_reducible refine (ofRule_calls2 r R rd _ hI.f.rr hrd HRL.out).mono ?_); rintro e w8 ⟨Y, ey, rfl, hU, hey, hb⟩; replace hI := hI.step hb; (try replace hP := Kd.C_below hP hb); (try replace hK0 := Kd.C_below hK0 hb); (try replace hK1 := Kd.C_below hK1 hb); (try replace hK3 := Kd.C_below hK3 hb); replace z0 := hI.f.g.a0; replace z1 := hI.f.g.a1; replace z2 := hI.f.g.a2_; replace z3 := hI.f.g.a3; replace y0 := hI.f.g.b0; replace y1 := hI.f.g.b1; replace y2 := hI.f.g.b2_; replace y3 := hI.f.g.b3; replace q0 := hI.f.q0; replace q1 := hI.f.q1; replace x0 := hI.u0; replace x1 := hI.u1; replace x2 := hI.u2; replace x3 := hI.u3; clear hb) | (go_at_call 22; (with_reducible refine (refind_calls l3 KG.out.2.2.1 KG.out.2.2.2 r HRL.out Ao co HCO.out Y ey hey _ hI.mr hU).mono ?_); rintro e w8 ⟨rfl, hb⟩; replace hI := hI.step hb; (try replace hU := Kd.C_below hU hb); (try replace hP := Kd.C_below hP hb); (try replace hK0 := Kd.C_below hK0 hb); (try replace hK1 := Kd.C_below hK1 hb); (try replace hK3 := Kd.C_below hK3 hb); replace z0 := hI.f.g.a0; replace z1 := hI.f.g.a1; replace z2 := hI.f.g.a2_; replace z3 := hI.f.g.a3; replace y0 := hI.f.g.b0; replace y1 := hI.f.g.b1; replace y2 := hI.f.g.b2_; replace y3 := hI.f.g.b3; replace q0 := hI.f.q0; replace q1 := hI.f.q1; replace x0 := hI.u0; replace x1 := hI.u1; replace x2 := hI.u2; replace x3 := hI.u3; clear hb) | (go_at_call 24; (with_reducible refine (gsame_calls A0 c0 l0 A1 c1 l1 a2 A3 c3 l3 OKG.out h0 h1 h3 B0 d0 m0 B1 d1 m1 b2 B3 d3 m3 OKH.out g0 g1 g3 _ hI.f.ga0 hI.f.ga1 hI.f.ga3 hI.f.gb0 hI.f.gb1 hI.f.gb3).mono ?_); rintro e w8 ⟨rfl, hb⟩; replace hI := hI.step hb; (try replace hU := Kd.C_below hU hb); (try replace hP := Kd.C_below hP hb); (try replace hK0 := Kd.C_below hK0 hb); (try replace hK1 := Kd.C_below hK1 hb); (try replace hK3 := Kd.C_below hK3 hb); replace z0 := hI.f.g.a0; replace z1 := hI.f.g.a1; replace z2 := hI.f.g.a2_; replace z3 := hI.f.g.a3; replace y0 := hI.f.g.b0; replace y1 := hI.f.g.b1; replace y2 := hI.f.g.b2_; replace y3 := hI.f.g.b3; replace q0 := hI.f.q0; replace q1 := hI.f.q1; replace x0 := hI.u0; replace x1 := hI.u1; replace x2 := hI.u2; replace x3 := hI.u3; clear hb) | (go_at_call 24; (with_reducible refine (gsame_calls A0 c0 l0 A1 c1 l1 a2 A3 c3 l3 OKG.out h0 h1 h3 A0 c0 l0 A1 c1 l1 a2 A3 c3 l3 OKG.out h0 h1 h3 _ hI.f.ga0 hI.f.ga1 hI.f.ga3 hI.f.ga0 hI.f.ga1 hI.f.ga3).mono ?_); rintro e w8 ⟨rfl, hb⟩; rw [alike_self]; replace hI := hI.step hb; (try replace hU := Kd.C_below hU hb); (try replace hP := Kd.C_below hP hb); (try replace hK0 := Kd.C_below hK0 hb); (try replace hK1 := Kd.C_below hK1 hb); (try replace hK3 := Kd.C_below hK3 hb); replace z0 := hI.f.g.a0; replace z1 := hI.f.g.a1; replace z2 := hI.f.g.a2_; replace z3 := hI.f.g.a3; replace y0 := hI.f.g.b0; replace y1 := hI.f.g.b1; replace y2 := hI.f.g.b2_; replace y3 := hI.f.g.b3; replace q0 := hI.f.q0; replace q1 := hI.f.q1; replace x0 := hI.u0; replace x1 := hI.u1; replace x2 := hI.u2; replace x3 := hI.u3; clear hb) | (go_at_call 24; (with_reducible refine (gsame_calls A0 c0 l0 A1 c1 l1 a2 A3 c3 l3 OKG.out h0 h1 h3 X0 e0 l0 X1 e1 l1 a2 X3 e3 l3 OKG.out k0 k1 k3 _ hI.f.ga0 hI.f.ga1 hI.f.ga3 hK0 hK1 hK3).mono ?_); rintro e w8 ⟨rfl, hb⟩; rw [alike_self]; replace hI := hI.step hb; (try replace hU := Kd.C_below hU hb); (try replace hP := Kd.C_below hP hb); (try replace hK0 := Kd.C_below hK0 hb); (try replace hK1 := Kd.C_below hK1 hb); (try replace hK3 := Kd.C_below hK3 hb); replace z0 := hI.f.g.a0; replace z1 := hI.f.g.a1; replace z2 := hI.f.g.a2_; replace z3 := hI.f.g.a3; replace y0 := hI.f.g.b0; replace y1 := hI.f.g.b1; replace y2 := hI.f.g.b2_; replace y3 := hI.f.g.b3; replace q0 := hI.f.q0; replace q1 := hI.f.q1; replace x0 := hI.u0; replace x1 := hI.u1; replace x2 := hI.u2; replace x3 := hI.u3; clear hb) | (go_at_call 11; (with_reducible refine (of_calls2 B0 d0 m0 B1 d1 m1 b2 B3 d3 m3 KH.out.2.2.1 KH.out.2.2.2 _ hI.f.gb3).mono ?_); rintro e w8 ⟨Po, po, rfl, hP, hpo, hb⟩; replace hI := hI.step hb; (try replace hU := Kd.C_below hU hb); (try replace hK0 := Kd.C_below hK0 hb); (try replace hK1 := Kd.C_below hK1 hb); (try replace hK3 := Kd.C_below hK3 hb); replace z0 := hI.f.g.a0; replace z1 := hI.f.g.a1; replace z2 := hI.f.g.a2_; replace z3 := hI.f.g.a3; replace y0 := hI.f.g.b0; replace y1 := hI.f.g.b1; replace y2 := hI.f.g.b2_; replace y3 := hI.f.g.b3; replace q0 := hI.f.q0; replace q1 := hI.f.q1; replace x0 := hI.u0; replace x1 := hI.u1; replace x2 := hI.u2; replace x3 := hI.u3; clear hb) | (go_at_call 25; (with_reducible refine (ralike_calls A0 c0 l0 A1 c1 l1 a2 Ao co l3 B0 d0 m0 B1 d1 m1 b2 Po po m3 OKG.out OKH.out h0 h1 HCO.out g0 g1 hpo _ hI.f.ga0 hI.f.ga1 hI.mr hI.f.gb0 hI.f.gb1 hP).mono ?_); rintro e w8 ⟨rfl, hb⟩; replace hI := hI.step hb; (try replace hU := Kd.C_below hU hb); (try replace hP := Kd.C_below hP hb); (try replace hK0 := Kd.C_below hK0 hb); (try replace hK1 := Kd.C_below hK1 hb); (try replace hK3 := Kd.C_below hK3 hb); replace z0 := hI.f.g.a0; replace z1 := hI.f.g.a1; replace z2 := hI.f.g.a2_; replace z3 := hI.f.g.a3; replace y0 := hI.f.g.b0; replace y1 := hI.f.g.b1; replace y2 := hI.f.g.b2_; replace y3 := hI.f.g.b3; replace q0 := hI.f.q0; replace q1 := hI.f.q1; replace x0 := hI.u0; replace x1 := hI.u1; replace x2 := hI.u2; replace x3 := hI.u3; clear hb) | (go_at_call 26; (with_reducible refine (gclone_calls2 A0 c0 l0 A1 c1 l1 a2 A3 c3 l3 OKG.out h0 h1 h3 _ hI.f.ga0 hI.f.ga1 hI.f.ga3).mono ?_); rintro e w8 ⟨X0, e0, X1, e1, X3, e3, rfl, ⟨hK0, k0⟩, ⟨hK1, k1⟩, ⟨hK3, k3⟩, hb⟩; replace hI := hI.step hb; (try replace hU := Kd.C_below hU hb); (try replace hP := Kd.C_below hP hb); replace z0 := hI.f.g.a0; replace z1 := hI.f.g.a1; replace z2 := hI.f.g.a2_; replace z3 := hI.f.g.a3; replace y0 := hI.f.g.b0; replace y1 := hI.f.g.b1; replace y2 := hI.f.g.b2_; replace y3 := hI.f.g.b3; replace q0 := hI.f.q0; replace q1 := hI.f.q1; replace x0 := hI.u0; replace x1 := hI.u1; replace x2 := hI.u2; replace x3 := hI.u3; clear hb))
              all_goals
                go_wp2
                go_ret
                exact ⟨rfl, hI.f.g.l⟩
end Go.Proofs.YtgdcnmpcfoomiaaDoor.G
end
namespace Go.Proofs.YtgdcnmpcfoomiaaDoor.gramFinds
open Go Go.Proofs.YtgdcnmpcfoomiaaDoorOpen Go.ChangeShapes Go.WideShapes Go.ChangeAt Go.RowKit
open Go.ChangeMaps (open_string shut_string)
set_option linter.unusedVariables false
theorem own : ownKnob Tryd.prog.godebug = none := by kernel_rfl
theorem laidOut : laidOutB Tryd.prog = true := by kernel_rfl
def laid : List (String × DataW Unit) := [("math/bits.deBruijn32tab", Rows.laid_math_bits_deBruijn32tab), ("math/bits.deBruijn64tab", Rows.laid_math_bits_deBruijn64tab), ("internal/strconv.uint64pow10", Rows.laid_internal_strconv_uint64pow10)]
theorem laid_in : (("internal/strconv.uint64pow10", Lib.tabData .u64 Lib.pow10Tab) : String × DataW Unit) ∈ laid := by
  rw [show (Lib.tabData .u64 Lib.pow10Tab : DataW Unit) = Rows.laid_internal_strconv_uint64pow10 by kernel_rfl]
  exact List.Mem.tail _ (List.Mem.tail _ (List.Mem.head _))
theorem laid_met (os : Os) (args : Array Value) : laidMetH Tryd.prog laid ((World.laidAll Tryd.prog os laid).forCall (fun _ _ => 0) ⟨#[], args, []⟩).memory := by
  rw [Go.MakeChecks.laidMetH_plain _ _ _ (by kernel_rfl)]
  exact laidMet_laidAll args (by kernel_rfl) (by kernel_rfl)
set_option maxRecDepth 100000 in
theorem lifted (os : Os) (started : os.Started) (H : Type) (enc : TypeId × Value → H) :
    ReturnsInHanded {} Tryd.checked os 5 .any (fun w args => (Rows.gramFindsSpec.pre enc Tryd.prog Tryd.f5 [] false w args ∧ laidMetH Tryd.prog laid w) ∧ sizedMet enc Tryd.prog Tryd.f5 (OpenSpec.ofChange Rows.gramFindsSpec) false w args) (Rows.gramFindsSpec.post enc Tryd.prog Tryd.f5 false true false false) := by
  refine returnsInHanded_of_change_and (C := Tryd.checked) (X := fun w _ => laidMetH Tryd.prog laid w) (fun _ _ _ hh h => h.of_heap hh) own started (by kernel_rfl) Tryd.func5
    (ChangeSpec.witness_at (enc := enc) (C := Tryd.checked) (os := os) (X := fun w _ => laidMetH Tryd.prog laid w) false (World.laidAll Tryd.prog os laid) #[.agg #[.slice none 0 0, .slice none 0 0, .int .i64 0, .slice none 0 0], .agg #[.slice none 0 0, .slice none 0 0, .int .i64 0, .slice none 0 0], .int .i64 0, .agg #[.int .i64 0, .slice none 0 0]] 8 (World.laidAll_os _ _ _) (by kernel_rfl) (by kernel_rfl) (by kernel_rfl) (by kernel_rfl) (by kernel_rfl) (laid_met os _)) ?_
  intro W base args ds gs before hval0 hW hcnd hsz0 hL _
  have hsz : (DataW.weightsEach Tryd.prog (Tryd.f5.params.toList ++ Rows.gramFindsSpec.plain.varTypes Tryd.prog) (ds ++ gs)).all (· ≤ reachBytes) = true := hsz0
  have hval : ∀ (j : Nat) t v, Tryd.f5.params[j]? = some t → args[j]? = some v → Value.okWide Tryd.prog W .any base t v := hval0
  have hW' := hW
  obtain ⟨p, q, hA0, hV, rfl, hfz, hnd⟩ := hW
  have hA : DataW.TrodAll enc Tryd.prog W 0 (fun _ => true) true Tryd.f5.params.toList args.toList ds p := hA0
  rw [Tryd.params5] at hA hval hsz
  obtain ⟨v0, vs0, d0, ds0, p0, q0, hargs, rfl, rfl, h0, r0⟩ := trodAll_cons hA
  obtain ⟨v1, vs1, d1, ds1, p1, q1, rfl, rfl, rfl, h1, r1⟩ := trodAll_cons r0
  obtain ⟨v2, vs2, d2, ds2, p2, q2, rfl, rfl, rfl, h2, r2⟩ := trodAll_cons r1
  obtain ⟨v3, vs3, d3, ds3, p3, q3, rfl, rfl, rfl, h3, r3⟩ := trodAll_cons r2
  obtain ⟨rfl, rfl, rfl⟩ := trodAll_nil r3
  obtain rfl : args = #[v0, v1, v2, v3] := by cases args; simp_all
  obtain ⟨rfl, rfl⟩ := trodVars_none hV
  have k0 := h0
  have lt0 : ∀ x ∈ p0, x.block < W.heap.size := by obtain ⟨m, hm⟩ := k0; exact DataW.trod_lt m _ _ _ hm
  obtain ⟨A0a, c0a, l0a, A0b, c0b, l0b, i0, A0d, c0d, l0d, rfl, ⟨hr0a, hc0a⟩, ⟨hr0b, hc0b⟩, ⟨hr0d, hc0d⟩, gin0⟩ := Go.Proofs.YtgdcnmpcfoomiaaDoor.G.open_gram (hval 0 25 v0 rfl rfl) h0 (Go.Proofs.YtgdcnmpcfoomiaaDoorOpen.weigh hsz (j := 0) rfl rfl)
  have k1 := h1
  have lt1 : ∀ x ∈ p1, x.block < W.heap.size := by obtain ⟨m, hm⟩ := k1; exact DataW.trod_lt m _ _ _ hm
  obtain ⟨A1a, c1a, l1a, A1b, c1b, l1b, i1, A1d, c1d, l1d, rfl, ⟨hr1a, hc1a⟩, ⟨hr1b, hc1b⟩, ⟨hr1d, hc1d⟩, gin1⟩ := Go.Proofs.YtgdcnmpcfoomiaaDoor.G.open_gram (hval 1 25 v1 rfl rfl) h1 (Go.Proofs.YtgdcnmpcfoomiaaDoorOpen.weigh hsz (j := 1) rfl rfl)
  obtain ⟨a2, rfl, rfl, rfl, w2⟩ := open_int Tryd.underlying3 (hval 2 3 v2 rfl rfl) h2
  have k3 := h3
  have lt3 : ∀ x ∈ p3, x.block < W.heap.size := by obtain ⟨m, hm⟩ := k3; exact DataW.trod_lt m _ _ _ hm
  obtain ⟨r3x, R3, rd3, rfl, ri3, rl3, rc3⟩ := Go.Proofs.YtgdcnmpcfoomiaaDoor.G.open_rule (hval 3 35 v3 rfl rfl) h3 (Go.Proofs.YtgdcnmpcfoomiaaDoorOpen.weigh hsz (j := 3) rfl rfl)
  clear hA0 hval0 hsz0 hsz
  refine (Go.Proofs.YtgdcnmpcfoomiaaDoor.G.gramFinds_calls W (laid_of (by kernel_rfl) laid_in hL) _ _ l0a _ _ l0b i0 _ _ l0d gin0 hc0a hc0b hc0d hr0a hr0b hr0d _ _ l1a _ _ l1b i1 _ _ l1d gin1 hc1a hc1b hc1d hr1a hr1b hr1d a2 w2 r3x _ _ ri3 rl3 rc3).mono fun e W' hpost => ?_
  obtain ⟨he, bel⟩ : e = .returned (.bool true) ∧ Below W.heap.size W W' := hpost
  subst he
  exact ⟨_, rfl, _, _, _, [], _, [], hW', trodAll_mk1 (shut_bool Tryd.underlying4 _), (trodAll_cons_mk (Below.trod laidOut (by kernel_rfl) (of_decide_eq_true (by kernel_rfl)) k0 bel lt0) (trodAll_cons_mk (Below.trod laidOut (by kernel_rfl) (of_decide_eq_true (by kernel_rfl)) k1 bel lt1) (trodAll_cons_mk (shut_int Tryd.underlying3 w2) (trodAll_cons_mk (Below.trod laidOut (by kernel_rfl) (of_decide_eq_true (by kernel_rfl)) k3 bel lt3) trodAll_mk0)))), rfl, bel.frame _, fun h => by cases h⟩
theorem over : Rows.GramFindsSaid :=
  OpenClaim.holds_of_wide 5 Tryd.f5 rfl rfl rfl rfl rfl rfl rfl ⟨rfl, rfl, rfl, rfl, rfl⟩ rfl rfl rfl rfl rfl (by kernel_rfl) Tryd.func5 (by kernel_rfl)
    (of_decide_eq_true (by kernel_rfl)) (by unfold Func.isWrapper; first | (rw [if_pos (by decide +kernel)]; kernel_rfl) | (rw [if_neg (by decide +kernel)]; exact ⟨rfl, rfl⟩))
    (fun os started H enc _ => lifted os started H enc)
theorem carded : Rows.GramFindsCardSaid :=
  Claim7.holds_tied_plain_at .later [] [.data, .data, .data] true (true, "dbcb39fb42b103b2db4ac0b36b29ec61e8607bd03254c021b0261db2afc69120") false
    over (fun _ h => by cases h) (by kernel_rfl) (fun _ h => by cases h) gramFinds_row_tie rfl ⟨rfl, rfl⟩ (by kernel_rfl) rfl
    (fun f fn hf hfn => by
      obtain rfl : f = 5 := Option.some.inj ((show Tryd.prog.funcNamed Rows.gramFindsRow.func = some 5 by kernel_rfl).symm.trans hf) |>.symm
      obtain rfl : fn = Tryd.f5 := (Option.some.inj (Tryd.func5.symm.trans hfn)).symm
      exact ⟨by kernel_rfl, fun j t ht => by
        rw [Tryd.params5] at ht
        rcases j with _ | j
        · obtain rfl : t = 25 := by simpa using ht.symm
          exact (show Tryd.prog.wantsStandIn 25 = false by kernel_rfl)
        rcases j with _ | j
        · obtain rfl : t = 25 := by simpa using ht.symm
          exact (show Tryd.prog.wantsStandIn 25 = false by kernel_rfl)
        rcases j with _ | j
        · obtain rfl : t = 3 := by simpa using ht.symm
          exact (show Tryd.prog.wantsStandIn 3 = false by kernel_rfl)
        rcases j with _ | j
        · obtain rfl : t = 35 := by simpa using ht.symm
          exact (show Tryd.prog.wantsStandIn 35 = false by kernel_rfl)
        simp at ht⟩)
    (by kernel_rfl)
#print axioms carded
end Go.Proofs.YtgdcnmpcfoomiaaDoor.gramFinds
namespace Go.Proofs.YtgdcnmpcfoomiaaDoor
theorem gramFinds_holds : Rows.GramFindsCardSaid := gramFinds.carded
end Go.Proofs.YtgdcnmpcfoomiaaDoor
