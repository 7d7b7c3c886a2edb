/- TreeDerives of the law03, where what it reads is of bulk at most 1048576: answers true: the leftmost derivation by the rules that a fitting tree uses ends in the tree's yield: part 4 of 6 of its proof, packed by a program of this session out of the texts GRef021, GRef022, RefC, TreeC. -/
import Derived.Test.YtmdjmbdeeodehaaDoorZTD2
section
namespace Go.Proofs.YtmdjmbdeeodehaaDoor.G
open Go.RowKit Go.Proofs.YtmdjmbdeeodehaaDoorW.PrintWords Go.Proofs.YtmdjmbdeeodehaaDoorW.PrintLast Go.Proofs.YtmdjmbdeeodehaaDoorW.PrintMore
attribute [local go_sem] max2_int min2_int max_two min_two max_three min_three max_four min_four
attribute [local go_sem] Go.Proofs.YtmdjmbdeeodehaaDoorOwn.isSome_setCell
set_option linter.unusedVariables false
set_option linter.unusedSimpArgs false
def wickerref02_Has.f (l0_0 : List ByteArray) (l0_1 : List ByteArray) (a0_2 : Int) (l0_3 : List (S87)) (a1 : Int) : Option (Bool) := if a1 < (l0_0.length : Int) then (some (decide (a1 ≥ (wrap64 (-(l0_1.length : Int)))))) else (some false)
set_option maxHeartbeats 8000000 in
set_option maxRecDepth 100000 in
theorem wickerref02_Has.calls (A0_0 : Option Addr) (c0_0 : Nat) (l0_0 : List ByteArray) (A0_1 : Option Addr) (c0_1 : Nat) (l0_1 : List ByteArray) (a0_2 : Int) (A0_3 : Option Addr) (c0_3 : Nat) (l0_3 : List (S87)) (a1 : Int) (r : Bool) (w : World) (hr0_0 : Kd.C Kd.string w A0_0 l0_0.length l0_0) (hc0_0 : l0_0.length ≤ c0_0) (hr0_1 : Kd.C Kd.string w A0_1 l0_1.length l0_1) (hc0_1 : l0_1.length ≤ c0_1) (hr0_3 : Kd.C k87 w A0_3 l0_3.length l0_3) (hc0_3 : l0_3.length ≤ c0_3) (h : wickerref02_Has.f l0_0 l0_1 a0_2 l0_3 a1 = some r) :
  Calls Tryd.prog 104 #[.agg #[.slice A0_0 l0_0.length c0_0, .slice A0_1 l0_1.length c0_1, .int .i64 a0_2, .slice A0_3 l0_3.length c0_3], .int .i64 a1] w fun e w' => e = .returned (.bool r) ∧ Below w.heap.size w w' := by
 have hu63 := Tryd.underlying63
 have HR0_0 := Aside0.mk hr0_0
 have HC0_0 := Aside0.mk hc0_0
 clear hr0_0 hc0_0
 have HR0_1 := Aside0.mk hr0_1
 have HC0_1 := Aside0.mk hc0_1
 clear hr0_1 hc0_1
 have HR0_3 := Aside0.mk hr0_3
 have HC0_3 := Aside0.mk hc0_3
 clear hr0_3 hc0_3
 have HB := Aside0.mk (Below.refl w.heap.size w)
 have H : (if a1 < (l0_0.length : Int) then (some (decide (a1 ≥ (wrap64 (-(l0_1.length : Int)))))) else (some false)) = some r := h
 clear h
 by_cases c3 : a1 < (l0_0.length : Int)
 ·rw [if_pos c3] at H
  have c3b0 : decide (a1 < (l0_0.length : Int)) = true := decide_eq_true c3
  clear c3
  obtain rfl := Option.some.inj H
  go_enter Tryd.func104, Tryd.ntmps104
  go_wp2_with (first | ((with_reducible refine gate_dst (N := 2) rfl ?_); (try (refine gate_guard (by rfl) ?_; dsimp only)); refine box_event ?hg (N := 2) ?hd (cs := #[.slice A0_0 l0_0.length c0_0, .slice A0_1 l0_1.length c0_1, .int .i64 a0_2, .slice A0_3 l0_3.length c0_3]) (t := 63) ?hr ?_; (case hd => rfl); (case hg => rfl); (case hr => first | (go_simp; done) | (go_simp; rfl)); intro gb101 hg w4 hbox hb; have n0_ := Aside0.mk (below_step (by repeat (first | (with_reducible first | exact HB.out | apply below_alloc | apply pw_below_drewN | apply below_drew1) | exact HB.out)) hb); have n1_ := Aside0.mk (hbox); have n2_ := Aside0.mk ((by rw [hg]; exact (below_size (by repeat (first | (with_reducible first | exact HB.out | apply below_alloc | apply pw_below_drewN | apply below_drew1) | exact HB.out))) : w.heap.size ≤ gb101)); have n3_ := Aside0.mk ((by rw [hg]; exact (below_size (by repeat (first | (with_reducible first | exact HB.out | apply below_alloc | apply pw_below_drewN | apply below_drew1) | exact HB.out))) : w.heap.size ≤ gb101)); clear HB; have HB := n0_; have BK101 := n1_; have GW101 := n2_; have GE101 := n3_; clear n0_ n1_ n2_ n3_; clear hb hbox hg; have hcz5_0 : w4.cell? ⟨gb101, 0, none⟩ = some (.slice A0_0 l0_0.length c0_0) := (blk_cell BK101.out 0).trans rfl; have hcz5_1 : w4.cell? ⟨gb101, 1, none⟩ = some (.slice A0_1 l0_1.length c0_1) := (blk_cell BK101.out 1).trans rfl; have hcz5_2 : w4.cell? ⟨gb101, 2, none⟩ = some (.int .i64 a0_2) := (blk_cell BK101.out 2).trans rfl; have hcz5_3 : w4.cell? ⟨gb101, 3, none⟩ = some (.slice A0_3 l0_3.length c0_3) := (blk_cell BK101.out 3).trans rfl; have hfz5_0 := blk_frozen BK101.out 0; have hfz5_1 := blk_frozen BK101.out 1; have hfz5_2 := blk_frozen BK101.out 2; have hfz5_3 := blk_frozen BK101.out 3))
  go_ret
  exact ⟨by first | rfl | (simp [errW_none, errW_some] <;> rfl) | (simp [*, errW_none, errW_some] <;> rfl), by repeat (first | (with_reducible first | exact HB.out | apply below_alloc | apply pw_below_drewN | apply below_drew1 | refine below_set ?_ GE101.out) | exact HB.out)⟩
 ·rw [if_neg c3] at H
  have c3b0 : decide (a1 < (l0_0.length : Int)) = false := decide_eq_false c3
  clear c3
  obtain rfl := Option.some.inj H
  go_enter Tryd.func104, Tryd.ntmps104
  go_wp2_with (first | ((with_reducible refine gate_dst (N := 2) rfl ?_); (try (refine gate_guard (by rfl) ?_; dsimp only)); refine box_event ?hg (N := 2) ?hd (cs := #[.slice A0_0 l0_0.length c0_0, .slice A0_1 l0_1.length c0_1, .int .i64 a0_2, .slice A0_3 l0_3.length c0_3]) (t := 63) ?hr ?_; (case hd => rfl); (case hg => rfl); (case hr => first | (go_simp; done) | (go_simp; rfl)); intro gb101 hg w6 hbox hb; have n0_ := Aside0.mk (below_step (by repeat (first | (with_reducible first | exact HB.out | apply below_alloc | apply pw_below_drewN | apply below_drew1) | exact HB.out)) hb); have n1_ := Aside0.mk (hbox); have n2_ := Aside0.mk ((by rw [hg]; exact (below_size (by repeat (first | (with_reducible first | exact HB.out | apply below_alloc | apply pw_below_drewN | apply below_drew1) | exact HB.out))) : w.heap.size ≤ gb101)); have n3_ := Aside0.mk ((by rw [hg]; exact (below_size (by repeat (first | (with_reducible first | exact HB.out | apply below_alloc | apply pw_below_drewN | apply below_drew1) | exact HB.out))) : w.heap.size ≤ gb101)); clear HB; have HB := n0_; have BK101 := n1_; have GW101 := n2_; have GE101 := n3_; clear n0_ n1_ n2_ n3_; clear hb hbox hg; have hcz7_0 : w6.cell? ⟨gb101, 0, none⟩ = some (.slice A0_0 l0_0.length c0_0) := (blk_cell BK101.out 0).trans rfl; have hcz7_1 : w6.cell? ⟨gb101, 1, none⟩ = some (.slice A0_1 l0_1.length c0_1) := (blk_cell BK101.out 1).trans rfl; have hcz7_2 : w6.cell? ⟨gb101, 2, none⟩ = some (.int .i64 a0_2) := (blk_cell BK101.out 2).trans rfl; have hcz7_3 : w6.cell? ⟨gb101, 3, none⟩ = some (.slice A0_3 l0_3.length c0_3) := (blk_cell BK101.out 3).trans rfl; have hfz7_0 := blk_frozen BK101.out 0; have hfz7_1 := blk_frozen BK101.out 1; have hfz7_2 := blk_frozen BK101.out 2; have hfz7_3 := blk_frozen BK101.out 3))
  go_ret
  exact ⟨by first | rfl | (simp [errW_none, errW_some] <;> rfl) | (simp [*, errW_none, errW_some] <;> rfl), by repeat (first | (with_reducible first | exact HB.out | apply below_alloc | apply pw_below_drewN | apply below_drew1 | refine below_set ?_ GE101.out) | exact HB.out)⟩
mutual
def wickerref02_Same.j0 : Nat → Bool → Int → List Int → Int → List Int → Option (Bool)
 | 0, _, _, _, _, _ => none
 | k + 1, x19, x102000, x102001, x103000, x103001 => if x19 = true then (some false) else (wickerref02_Same.l0 k 0 x102000 x102001 x103000 x103001)
def wickerref02_Same.l0 : Nat → Int → Int → List Int → Int → List Int → Option (Bool)
 | 0, _, _, _, _, _ => none
 | k + 1, x5, x102000, x102001, x103000, x103001 => if x5 < (x102001.length : Int) then (if 0 ≤ x5 then (if x5 < (x103001.length : Int) then (if (rd x102001 x5) = (rd x103001 x5) then (wickerref02_Same.l0 k (wrap64 (x5 + 1)) x102000 x102001 x103000 x103001) else (some false)) else (none)) else (none)) else (some true)
end
def wickerref02_Same.f (k : Nat) (a0_0 : Int) (l0_1 : List Int) (a1_0 : Int) (l1_1 : List Int) : Option (Bool) := if a0_0 = a1_0 then (wickerref02_Same.j0 k ((l0_1.length : Int) != (l1_1.length : Int)) a0_0 l0_1 a1_0 l1_1) else (wickerref02_Same.j0 k true a0_0 l0_1 a1_0 l1_1)
set_option maxHeartbeats 8000000 in
set_option maxRecDepth 100000 in
theorem wickerref02_Same.calls (k : Nat) (a0_0 : Int) (A0_1 : Option Addr) (c0_1 : Nat) (l0_1 : List Int) (a1_0 : Int) (A1_1 : Option Addr) (c1_1 : Nat) (l1_1 : List Int) (r : Bool) (w : World) (hr0_1 : Kd.C (Kd.int .i64) w A0_1 l0_1.length l0_1) (hc0_1 : l0_1.length ≤ c0_1) (hr1_1 : Kd.C (Kd.int .i64) w A1_1 l1_1.length l1_1) (hc1_1 : l1_1.length ≤ c1_1) (h : wickerref02_Same.f k a0_0 l0_1 a1_0 l1_1 = some r) :
  Calls Tryd.prog 46 #[.agg #[.int .i64 a0_0, .slice A0_1 l0_1.length c0_1], .agg #[.int .i64 a1_0, .slice A1_1 l1_1.length c1_1]] w fun e w' => e = .returned (.bool r) ∧ Below w.heap.size w w' := by
 have hu87 := Tryd.underlying87
 have HR0_1 := Aside0.mk hr0_1
 have HC0_1 := Aside0.mk hc0_1
 clear hr0_1 hc0_1
 have HR1_1 := Aside0.mk hr1_1
 have HC1_1 := Aside0.mk hc1_1
 clear hr1_1 hc1_1
 have HB := Aside0.mk (Below.refl w.heap.size w)
 have H : (if a0_0 = a1_0 then (wickerref02_Same.j0 k ((l0_1.length : Int) != (l1_1.length : Int)) a0_0 l0_1 a1_0 l1_1) else (wickerref02_Same.j0 k true a0_0 l0_1 a1_0 l1_1)) = some r := h
 clear h
 have HC3 := Aside0.mk H
 clear H
 go_enter Tryd.func46, Tryd.ntmps46
 go_upto_region 1 with (first | ((with_reducible refine gate_dst (N := 2) rfl ?_); (try (refine gate_guard (by rfl) ?_; dsimp only)); refine box_event ?hg (N := 2) ?hd (cs := #[.int .i64 a0_0, .slice A0_1 l0_1.length c0_1]) (t := 87) ?hr ?_; (case hd => rfl); (case hg => rfl); (case hr => first | (go_simp; done) | (go_simp; rfl)); intro gb101 hg w4 hbox hb; have n0_ := Aside0.mk (below_step (by repeat (first | (with_reducible first | exact HB.out | apply below_alloc | apply pw_below_drewN | apply below_drew1) | exact HB.out)) hb); have n1_ := Aside0.mk (hbox); have n2_ := Aside0.mk ((by rw [hg]; exact (below_size (by repeat (first | (with_reducible first | exact HB.out | apply below_alloc | apply pw_below_drewN | apply below_drew1) | exact HB.out))) : w.heap.size ≤ gb101)); have n3_ := Aside0.mk ((by rw [hg]; exact (below_size (by repeat (first | (with_reducible first | exact HB.out | apply below_alloc | apply pw_below_drewN | apply below_drew1) | exact HB.out))) : w.heap.size ≤ gb101)); clear HB; have HB := n0_; have BK101 := n1_; have GW101 := n2_; have GE101 := n3_; clear n0_ n1_ n2_ n3_; clear hb hbox hg) | ((with_reducible refine gate_dst (N := 3) rfl ?_); (try (refine gate_guard (by rfl) ?_; dsimp only)); refine box_event ?hg (N := 3) ?hd (cs := #[.int .i64 a1_0, .slice A1_1 l1_1.length c1_1]) (t := 87) ?hr ?_; (case hd => rfl); (case hg => rfl); (case hr => first | (go_simp; done) | (go_simp; rfl)); intro gb102 hg w5 hbox hb; have n0_ := Aside0.mk (blk_below (g := gb101) (o := .cells #[.int .i64 a0_0, .slice A0_1 l0_1.length c0_1] 87 (0, 0)) (by (with_reducible repeat (first | refine blk_drewN ?_ _ | refine blk_drew ?_ | refine blk_alloc ?_ _)); exact BK101.out) hb); have n1_ := Aside0.mk (below_step (by repeat (first | (with_reducible first | exact HB.out | apply below_alloc | apply pw_below_drewN | apply below_drew1 | refine below_set ?_ GE101.out) | exact HB.out)) hb); have n2_ := Aside0.mk (hbox); have n3_ := Aside0.mk ((by rw [hg]; exact (below_size (by repeat (first | (with_reducible first | exact HB.out | apply below_alloc | apply pw_below_drewN | apply below_drew1 | refine below_set ?_ GE101.out) | exact HB.out))) : w.heap.size ≤ gb102)); have n4_ := Aside0.mk ((by rw [hg]; exact (below_size (by repeat (first | (with_reducible first | exact HB.out | apply below_alloc | apply pw_below_drewN | apply below_drew1 | refine below_set ?_ GE101.out) | exact HB.out))) : w.heap.size ≤ gb102)); have n5_ := Aside0.mk ((by rw [hg]; exact Nat.ne_of_lt (blk_lt (g := gb101) (o := .cells #[.int .i64 a0_0, .slice A0_1 l0_1.length c0_1] 87 (0, 0)) (by (with_reducible repeat (first | refine blk_drewN ?_ _ | refine blk_drew ?_ | refine blk_alloc ?_ _)); exact BK101.out)) : gb101 ≠ gb102)); have n6_ := Aside0.mk ((by rw [hg]; exact Nat.ne_of_gt (blk_lt (g := gb101) (o := .cells #[.int .i64 a0_0, .slice A0_1 l0_1.length c0_1] 87 (0, 0)) (by (with_reducible repeat (first | refine blk_drewN ?_ _ | refine blk_drew ?_ | refine blk_alloc ?_ _)); exact BK101.out)) : gb102 ≠ gb101)); clear BK101; clear HB; have BK101 := n0_; have HB := n1_; have BK102 := n2_; have GW102 := n3_; have GE102 := n4_; have NB101_102 := n5_; have NB102_101 := n6_; clear n0_ n1_ n2_ n3_ n4_ n5_ n6_; clear hb hbox hg))
 repeat (go_quiet (first | ((with_reducible refine gate_dst (N := 2) rfl ?_); (try (refine gate_guard (by rfl) ?_; dsimp only)); refine box_event ?hg (N := 2) ?hd (cs := #[.int .i64 a0_0, .slice A0_1 l0_1.length c0_1]) (t := 87) ?hr ?_; (case hd => rfl); (case hg => rfl); (case hr => first | (go_simp; done) | (go_simp; rfl)); intro gb101 hg w4 hbox hb; have n0_ := Aside0.mk (below_step (by repeat (first | (with_reducible first | exact HB.out | apply below_alloc | apply pw_below_drewN | apply below_drew1) | exact HB.out)) hb); have n1_ := Aside0.mk (hbox); have n2_ := Aside0.mk ((by rw [hg]; exact (below_size (by repeat (first | (with_reducible first | exact HB.out | apply below_alloc | apply pw_below_drewN | apply below_drew1) | exact HB.out))) : w.heap.size ≤ gb101)); have n3_ := Aside0.mk ((by rw [hg]; exact (below_size (by repeat (first | (with_reducible first | exact HB.out | apply below_alloc | apply pw_below_drewN | apply below_drew1) | exact HB.out))) : w.heap.size ≤ gb101)); clear HB; have HB := n0_; have BK101 := n1_; have GW101 := n2_; have GE101 := n3_; clear n0_ n1_ n2_ n3_; clear hb hbox hg) | ((with_reducible refine gate_dst (N := 3) rfl ?_); (try (refine gate_guard (by rfl) ?_; dsimp only)); refine box_event ?hg (N := 3) ?hd (cs := #[.int .i64 a1_0, .slice A1_1 l1_1.length c1_1]) (t := 87) ?hr ?_; (case hd => rfl); (case hg => rfl); (case hr => first | (go_simp; done) | (go_simp; rfl)); intro gb102 hg w5 hbox hb; have n0_ := Aside0.mk (blk_below (g := gb101) (o := .cells #[.int .i64 a0_0, .slice A0_1 l0_1.length c0_1] 87 (0, 0)) (by (with_reducible repeat (first | refine blk_drewN ?_ _ | refine blk_drew ?_ | refine blk_alloc ?_ _)); exact BK101.out) hb); have n1_ := Aside0.mk (below_step (by repeat (first | (with_reducible first | exact HB.out | apply below_alloc | apply pw_below_drewN | apply below_drew1 | refine below_set ?_ GE101.out) | exact HB.out)) hb); have n2_ := Aside0.mk (hbox); have n3_ := Aside0.mk ((by rw [hg]; exact (below_size (by repeat (first | (with_reducible first | exact HB.out | apply below_alloc | apply pw_below_drewN | apply below_drew1 | refine below_set ?_ GE101.out) | exact HB.out))) : w.heap.size ≤ gb102)); have n4_ := Aside0.mk ((by rw [hg]; exact (below_size (by repeat (first | (with_reducible first | exact HB.out | apply below_alloc | apply pw_below_drewN | apply below_drew1 | refine below_set ?_ GE101.out) | exact HB.out))) : w.heap.size ≤ gb102)); have n5_ := Aside0.mk ((by rw [hg]; exact Nat.ne_of_lt (blk_lt (g := gb101) (o := .cells #[.int .i64 a0_0, .slice A0_1 l0_1.length c0_1] 87 (0, 0)) (by (with_reducible repeat (first | refine blk_drewN ?_ _ | refine blk_drew ?_ | refine blk_alloc ?_ _)); exact BK101.out)) : gb101 ≠ gb102)); have n6_ := Aside0.mk ((by rw [hg]; exact Nat.ne_of_gt (blk_lt (g := gb101) (o := .cells #[.int .i64 a0_0, .slice A0_1 l0_1.length c0_1] 87 (0, 0)) (by (with_reducible repeat (first | refine blk_drewN ?_ _ | refine blk_drew ?_ | refine blk_alloc ?_ _)); exact BK101.out)) : gb102 ≠ gb101)); clear BK101; clear HB; have BK101 := n0_; have HB := n1_; have BK102 := n2_; have GW102 := n3_; have GE102 := n4_; have NB101_102 := n5_; have NB102_101 := n6_; clear n0_ n1_ n2_ n3_ n4_ n5_ n6_; clear hb hbox hg)); go_upto_region 1 with (first | ((with_reducible refine gate_dst (N := 2) rfl ?_); (try (refine gate_guard (by rfl) ?_; dsimp only)); refine box_event ?hg (N := 2) ?hd (cs := #[.int .i64 a0_0, .slice A0_1 l0_1.length c0_1]) (t := 87) ?hr ?_; (case hd => rfl); (case hg => rfl); (case hr => first | (go_simp; done) | (go_simp; rfl)); intro gb101 hg w4 hbox hb; have n0_ := Aside0.mk (below_step (by repeat (first | (with_reducible first | exact HB.out | apply below_alloc | apply pw_below_drewN | apply below_drew1) | exact HB.out)) hb); have n1_ := Aside0.mk (hbox); have n2_ := Aside0.mk ((by rw [hg]; exact (below_size (by repeat (first | (with_reducible first | exact HB.out | apply below_alloc | apply pw_below_drewN | apply below_drew1) | exact HB.out))) : w.heap.size ≤ gb101)); have n3_ := Aside0.mk ((by rw [hg]; exact (below_size (by repeat (first | (with_reducible first | exact HB.out | apply below_alloc | apply pw_below_drewN | apply below_drew1) | exact HB.out))) : w.heap.size ≤ gb101)); clear HB; have HB := n0_; have BK101 := n1_; have GW101 := n2_; have GE101 := n3_; clear n0_ n1_ n2_ n3_; clear hb hbox hg) | ((with_reducible refine gate_dst (N := 3) rfl ?_); (try (refine gate_guard (by rfl) ?_; dsimp only)); refine box_event ?hg (N := 3) ?hd (cs := #[.int .i64 a1_0, .slice A1_1 l1_1.length c1_1]) (t := 87) ?hr ?_; (case hd => rfl); (case hg => rfl); (case hr => first | (go_simp; done) | (go_simp; rfl)); intro gb102 hg w5 hbox hb; have n0_ := Aside0.mk (blk_below (g := gb101) (o := .cells #[.int .i64 a0_0, .slice A0_1 l0_1.length c0_1] 87 (0, 0)) (by (with_reducible repeat (first | refine blk_drewN ?_ _ | refine blk_drew ?_ | refine blk_alloc ?_ _)); exact BK101.out) hb); have n1_ := Aside0.mk (below_step (by repeat (first | (with_reducible first | exact HB.out | apply below_alloc | apply pw_below_drewN | apply below_drew1 | refine below_set ?_ GE101.out) | exact HB.out)) hb); have n2_ := Aside0.mk (hbox); have n3_ := Aside0.mk ((by rw [hg]; exact (below_size (by repeat (first | (with_reducible first | exact HB.out | apply below_alloc | apply pw_below_drewN | apply below_drew1 | refine below_set ?_ GE101.out) | exact HB.out))) : w.heap.size ≤ gb102)); have n4_ := Aside0.mk ((by rw [hg]; exact (below_size (by repeat (first | (with_reducible first | exact HB.out | apply below_alloc | apply pw_below_drewN | apply below_drew1 | refine below_set ?_ GE101.out) | exact HB.out))) : w.heap.size ≤ gb102)); have n5_ := Aside0.mk ((by rw [hg]; exact Nat.ne_of_lt (blk_lt (g := gb101) (o := .cells #[.int .i64 a0_0, .slice A0_1 l0_1.length c0_1] 87 (0, 0)) (by (with_reducible repeat (first | refine blk_drewN ?_ _ | refine blk_drew ?_ | refine blk_alloc ?_ _)); exact BK101.out)) : gb101 ≠ gb102)); have n6_ := Aside0.mk ((by rw [hg]; exact Nat.ne_of_gt (blk_lt (g := gb101) (o := .cells #[.int .i64 a0_0, .slice A0_1 l0_1.length c0_1] 87 (0, 0)) (by (with_reducible repeat (first | refine blk_drewN ?_ _ | refine blk_drew ?_ | refine blk_alloc ?_ _)); exact BK101.out)) : gb102 ≠ gb101)); clear BK101; clear HB; have BK101 := n0_; have HB := n1_; have BK102 := n2_; have GW102 := n3_; have GE102 := n4_; have NB101_102 := n5_; have NB102_101 := n6_; clear n0_ n1_ n2_ n3_ n4_ n5_ n6_; clear hb hbox hg)))
 (try simp only [Act.put, List.setIfInBounds_toArray, List.set_cons_zero, List.set_cons_succ])
 go_cut [19] (fun v19 wc => ∃ (kq : Nat) (x19_2 : Bool), v19 = .bool x19_2 ∧ Aside0 (wickerref02_Same.j0 kq x19_2 a0_0 l0_1 a1_0 l1_1 = some r) ∧ Aside0 (kq ≤ k) ∧ Aside0 (wc.heap[gb101]? = some (.cells #[.int .i64 a0_0, (.slice A0_1 l0_1.length c0_1)] 87 (0, 0))) ∧ Aside0 (wc.heap[gb102]? = some (.cells #[.int .i64 a1_0, (.slice A1_1 l1_1.length c1_1)] 87 (0, 0))) ∧ Aside0 (Below w.heap.size w wc))
 case first =>
  have H := HC3.out
  clear HC3
  by_cases c6 : a0_0 = a1_0
  ·rw [if_pos c6] at H
   have c6b0 : (a0_0 == a1_0) = true := beq_iff_eq.mpr c6
   have c6b1 : (a0_0 != a1_0) = false := bne_eq_false_iff_eq.mpr c6
   clear c6
   (first | rw [c6b0] | (simp only [i64_w, i32_w]; rw [c6b0]) | skip)
   have H' := Aside0.mk H
   clear H
   have hnb7 := NB101_102.out
   have hnc7 := NB102_101.out
   have hcz8_0 : w5.cell? ⟨gb101, 0, none⟩ = some (.int .i64 a0_0) := (blk_cell BK101.out 0).trans rfl
   have hcz8_1 : w5.cell? ⟨gb101, 1, none⟩ = some (.slice A0_1 l0_1.length c0_1) := (blk_cell BK101.out 1).trans rfl
   have hfz8_0 := blk_frozen BK101.out 0
   have hfz8_1 := blk_frozen BK101.out 1
   have hcz9_0 : w5.cell? ⟨gb102, 0, none⟩ = some (.int .i64 a1_0) := (blk_cell BK102.out 0).trans rfl
   have hcz9_1 : w5.cell? ⟨gb102, 1, none⟩ = some (.slice A1_1 l1_1.length c1_1) := (blk_cell BK102.out 1).trans rfl
   have hfz9_0 := blk_frozen BK102.out 0
   have hfz9_1 := blk_frozen BK102.out 1
   go_wp2
   repeat (go_quiet (fail); try go_wp2)
   go_meet
   case rel => exact ⟨_, (((l0_1.length : Int) != (l1_1.length : Int))), (by first | rfl | (simp; done) | (simp [*]; done)), H', ⟨by first | omega | exact Nat.le_refl _⟩, ⟨by (with_reducible repeat (first | refine blk_drewN ?_ _ | refine blk_drew ?_ | refine blk_alloc ?_ _)); exact BK101.out⟩, ⟨by (with_reducible repeat (first | refine blk_drewN ?_ _ | refine blk_drew ?_ | refine blk_alloc ?_ _)); exact BK102.out⟩, ⟨by repeat (first | (with_reducible first | exact HB.out | apply below_alloc | apply pw_below_drewN | apply below_drew1 | refine below_set ?_ GE101.out | refine below_set ?_ GE102.out) | exact HB.out)⟩⟩
  ·rw [if_neg c6] at H
   have c6b0 : (a0_0 == a1_0) = false := beq_eq_false_iff_ne.mpr c6
   have c6b1 : (a0_0 != a1_0) = true := bne_iff_ne.mpr c6
   (first | rw [c6b0] | (simp only [i64_w, i32_w]; rw [c6b0]) | skip)
   have H' := Aside0.mk H
   clear H
   have hnb10 := NB101_102.out
   have hnc10 := NB102_101.out
   have hcz11_0 : w5.cell? ⟨gb101, 0, none⟩ = some (.int .i64 a0_0) := (blk_cell BK101.out 0).trans rfl
   have hcz11_1 : w5.cell? ⟨gb101, 1, none⟩ = some (.slice A0_1 l0_1.length c0_1) := (blk_cell BK101.out 1).trans rfl
   have hfz11_0 := blk_frozen BK101.out 0
   have hfz11_1 := blk_frozen BK101.out 1
   have hcz12_0 : w5.cell? ⟨gb102, 0, none⟩ = some (.int .i64 a1_0) := (blk_cell BK102.out 0).trans rfl
   have hcz12_1 : w5.cell? ⟨gb102, 1, none⟩ = some (.slice A1_1 l1_1.length c1_1) := (blk_cell BK102.out 1).trans rfl
   have hfz12_0 := blk_frozen BK102.out 0
   have hfz12_1 := blk_frozen BK102.out 1
   go_wp2
   repeat (go_quiet (fail); try go_wp2)
   go_meet
   case rel => exact ⟨_, (true), (by first | rfl | (simp; done) | (simp [*]; done)), H', ⟨by first | omega | exact Nat.le_refl _⟩, ⟨by (with_reducible repeat (first | refine blk_drewN ?_ _ | refine blk_drew ?_ | refine blk_alloc ?_ _)); exact BK101.out⟩, ⟨by (with_reducible repeat (first | refine blk_drewN ?_ _ | refine blk_drew ?_ | refine blk_alloc ?_ _)); exact BK102.out⟩, ⟨by repeat (first | (with_reducible first | exact HB.out | apply below_alloc | apply pw_below_drewN | apply below_drew1 | refine below_set ?_ GE101.out | refine below_set ?_ GE102.out) | exact HB.out)⟩⟩
 case rest =>
  clear HC3
  try clear c1
  try clear p2
  try clear c4
  try clear c6
  try clear c6b0
  try clear c6b1
  try clear c7
  try clear c10
  try clear hcz11_0
  try clear hcz11_1
  try clear hcz12_0
  try clear hcz12_1
  try clear hcz8_0
  try clear hcz8_1
  try clear hcz9_0
  try clear hcz9_1
  try clear hfz11_0
  try clear hfz11_1
  try clear hfz12_0
  try clear hfz12_1
  try clear hfz8_0
  try clear hfz8_1
  try clear hfz9_0
  try clear hfz9_1
  obtain ⟨kq, x19_2, rfl, HA, HJ2, BK101, BK102, HB⟩ := hcut
  cases kq with
  | zero => exact absurd HA.out (by simp [wickerref02_Same.j0])
  | succ kj2 =>
   have H := HA.out
   clear HA
   simp only [wickerref02_Same.j0] at H
   by_cases c13 : x19_2 = true
   ·subst c13
    have H1 : (some false) = some r := by rw [if_pos rfl] at H; exact H
    clear H
    have H := H1
    clear H1
    obtain rfl := Option.some.inj H
    go_wp2
    repeat (go_quiet (fail); try go_wp2)
    go_ret
    exact ⟨by first | rfl | (simp [errW_none, errW_some] <;> rfl) | (simp [*, errW_none, errW_some] <;> rfl), by repeat (first | (with_reducible first | exact HB.out | apply below_alloc | apply pw_below_drewN | apply below_drew1 | refine below_set ?_ GE101.out | refine below_set ?_ GE102.out) | exact HB.out)⟩
   ·replace c13 := Bool.eq_false_iff.mpr c13
    subst c13
    have H1 : (wickerref02_Same.l0 kj2 0 a0_0 l0_1 a1_0 l1_1) = some r := by rw [if_neg (show ¬ (false = true) by decide)] at H; exact H
    clear H
    have H := H1
    clear H1
    have H' := Aside0.mk H
    clear H
    go_wp2
    repeat (go_quiet (fail); try go_wp2)
    go_loopg [5] kj2 (fun kq v5 w' => ∃ (x5_2 : Int), v5 = .int .i64 x5_2 ∧ Aside0 (wickerref02_Same.l0 kq x5_2 a0_0 l0_1 a1_0 l1_1 = some r) ∧ Aside0 (kq ≤ kj2) ∧ Aside0 (w'.heap[gb101]? = some (.cells #[.int .i64 a0_0, (.slice A0_1 l0_1.length c0_1)] 87 (0, 0))) ∧ Aside0 (w'.heap[gb102]? = some (.cells #[.int .i64 a1_0, (.slice A1_1 l1_1.length c1_1)] 87 (0, 0))) ∧ Aside0 (Below w.heap.size w w'))
    case atStart => exact ⟨(0), (by first | rfl | (simp; done) | (simp [*]; done)), H', ⟨Nat.le_refl _⟩, ⟨by (with_reducible repeat (first | refine blk_drewN ?_ _ | refine blk_drew ?_ | refine blk_alloc ?_ _)); exact BK101.out⟩, ⟨by (with_reducible repeat (first | refine blk_drewN ?_ _ | refine blk_drew ?_ | refine blk_alloc ?_ _)); exact BK102.out⟩, ⟨by repeat (first | (with_reducible first | exact HB.out | apply below_alloc | apply pw_below_drewN | apply below_drew1 | refine below_set ?_ GE101.out | refine below_set ?_ GE102.out) | exact HB.out)⟩⟩
    case round =>
     clear H'
     try clear c1
     try clear p2
     try clear c4
     try clear c6
     try clear c6b0
     try clear c6b1
     try clear c7
     try clear c10
     try clear c13
     try clear hcz11_0
     try clear hcz11_1
     try clear hcz12_0
     try clear hcz12_1
     try clear hcz8_0
     try clear hcz8_1
     try clear hcz9_0
     try clear hcz9_1
     try clear hfz11_0
     try clear hfz11_1
     try clear hfz12_0
     try clear hfz12_1
     try clear hfz8_0
     try clear hfz8_1
     try clear hfz9_0
     try clear hfz9_1
     try clear p2
     obtain ⟨x5_2, rfl, HA, HK2, BK101, BK102, HB⟩ := hrel
     cases gk with
     | zero => exact absurd HA.out (by simp [wickerref02_Same.l0])
     | succ k2 =>
      have H := HA.out
      clear HA
      simp only [wickerref02_Same.l0] at H
      by_cases c14 : x5_2 < (l0_1.length : Int)
      ·rw [if_pos c14] at H
       have c14b0 : decide (x5_2 < (l0_1.length : Int)) = true := decide_eq_true c14
       clear c14
       by_cases c15 : 0 ≤ x5_2
       ·rw [if_pos c15] at H
        have c15b0 : decide (0 ≤ x5_2) = true := decide_eq_true c15
        clear c15
        by_cases c16 : x5_2 < (l1_1.length : Int)
        ·rw [if_pos c16] at H
         have c16b0 : decide (x5_2 < (l1_1.length : Int)) = true := decide_eq_true c16
         clear c16
         by_cases c17 : (rd l0_1 x5_2) = (rd l1_1 x5_2)
         ·rw [if_pos c17] at H
          have c17b0 : ((rd l0_1 x5_2) == (rd l1_1 x5_2)) = true := beq_iff_eq.mpr c17
          have c17b1 : ((rd l0_1 x5_2) != (rd l1_1 x5_2)) = false := bne_eq_false_iff_eq.mpr c17
          clear c17
          have H' := Aside0.mk H
          clear H
          have hnb18 := NB101_102.out
          have hnc18 := NB102_101.out
          have hcz19_0 : wr.cell? ⟨gb101, 0, none⟩ = some (.int .i64 a0_0) := (blk_cell BK101.out 0).trans rfl
          have hcz19_1 : wr.cell? ⟨gb101, 1, none⟩ = some (.slice A0_1 l0_1.length c0_1) := (blk_cell BK101.out 1).trans rfl
          have hfz19_0 := blk_frozen BK101.out 0
          have hfz19_1 := blk_frozen BK101.out 1
          have p103 : 0 ≤ (x5_2 : Int) := of_decide_eq_true (by first | (with_reducible assumption) | assumption)
          have q103 : x5_2 < (l0_1.length : Int) := of_decide_eq_true (by first | (with_reducible assumption) | assumption)
          obtain ⟨ad103, e103, hx103_0⟩ := Kd.at_int HR0_1.out x5_2 p103 q103
          cases e103
          replace hx103_0 := (HB.out.cell (World.block_lt_of_cell? w _ hx103_0)).trans hx103_0
          replace p103 := eq_true p103
          replace q103 := eq_true q103
          have hcz20_0 : wr.cell? ⟨gb102, 0, none⟩ = some (.int .i64 a1_0) := (blk_cell BK102.out 0).trans rfl
          have hcz20_1 : wr.cell? ⟨gb102, 1, none⟩ = some (.slice A1_1 l1_1.length c1_1) := (blk_cell BK102.out 1).trans rfl
          have hfz20_0 := blk_frozen BK102.out 0
          have hfz20_1 := blk_frozen BK102.out 1
          have p104 : 0 ≤ (x5_2 : Int) := of_decide_eq_true (by first | (with_reducible assumption) | assumption)
          have q104 : x5_2 < (l1_1.length : Int) := of_decide_eq_true (by first | (with_reducible assumption) | assumption)
          obtain ⟨ad104, e104, hx104_0⟩ := Kd.at_int HR1_1.out x5_2 p104 q104
          cases e104
          replace hx104_0 := (HB.out.cell (World.block_lt_of_cell? w _ hx104_0)).trans hx104_0
          replace p104 := eq_true p104
          replace q104 := eq_true q104
          go_wp2
          repeat (go_quiet (fail); try go_wp2)
          go_roundg k2
          case measure => have := HJ2.out; have := HK2.out; omega
          case rel => exact ⟨(wrap64 (x5_2 + 1)), (by first | rfl | (simp; done) | (simp [*]; done)), H', ⟨by have := HJ2.out; have := HK2.out; omega⟩, ⟨by (with_reducible repeat (first | refine blk_drewN ?_ _ | refine blk_drew ?_ | refine blk_alloc ?_ _)); exact BK101.out⟩, ⟨by (with_reducible repeat (first | refine blk_drewN ?_ _ | refine blk_drew ?_ | refine blk_alloc ?_ _)); exact BK102.out⟩, ⟨by repeat (first | (with_reducible first | exact HB.out | apply below_alloc | apply pw_below_drewN | apply below_drew1 | refine below_set ?_ GE101.out | refine below_set ?_ GE102.out) | exact HB.out)⟩⟩
         ·rw [if_neg c17] at H
          have c17b0 : ((rd l0_1 x5_2) == (rd l1_1 x5_2)) = false := beq_eq_false_iff_ne.mpr c17
          have c17b1 : ((rd l0_1 x5_2) != (rd l1_1 x5_2)) = true := bne_iff_ne.mpr c17
          obtain rfl := Option.some.inj H
          have hnb21 := NB101_102.out
          have hnc21 := NB102_101.out
          have hcz22_0 : wr.cell? ⟨gb101, 0, none⟩ = some (.int .i64 a0_0) := (blk_cell BK101.out 0).trans rfl
          have hcz22_1 : wr.cell? ⟨gb101, 1, none⟩ = some (.slice A0_1 l0_1.length c0_1) := (blk_cell BK101.out 1).trans rfl
          have hfz22_0 := blk_frozen BK101.out 0
          have hfz22_1 := blk_frozen BK101.out 1
          have p103 : 0 ≤ (x5_2 : Int) := of_decide_eq_true (by first | (with_reducible assumption) | assumption)
          have q103 : x5_2 < (l0_1.length : Int) := of_decide_eq_true (by first | (with_reducible assumption) | assumption)
          obtain ⟨ad103, e103, hx103_0⟩ := Kd.at_int HR0_1.out x5_2 p103 q103
          cases e103
          replace hx103_0 := (HB.out.cell (World.block_lt_of_cell? w _ hx103_0)).trans hx103_0
          replace p103 := eq_true p103
          replace q103 := eq_true q103
          have hcz23_0 : wr.cell? ⟨gb102, 0, none⟩ = some (.int .i64 a1_0) := (blk_cell BK102.out 0).trans rfl
          have hcz23_1 : wr.cell? ⟨gb102, 1, none⟩ = some (.slice A1_1 l1_1.length c1_1) := (blk_cell BK102.out 1).trans rfl
          have hfz23_0 := blk_frozen BK102.out 0
          have hfz23_1 := blk_frozen BK102.out 1
          have p104 : 0 ≤ (x5_2 : Int) := of_decide_eq_true (by first | (with_reducible assumption) | assumption)
          have q104 : x5_2 < (l1_1.length : Int) := of_decide_eq_true (by first | (with_reducible assumption) | assumption)
          obtain ⟨ad104, e104, hx104_0⟩ := Kd.at_int HR1_1.out x5_2 p104 q104
          cases e104
          replace hx104_0 := (HB.out.cell (World.block_lt_of_cell? w _ hx104_0)).trans hx104_0
          replace p104 := eq_true p104
          replace q104 := eq_true q104
          go_wp2
          repeat (go_quiet (fail); try go_wp2)
          go_ret
          exact ⟨by first | rfl | (simp [errW_none, errW_some] <;> rfl) | (simp [*, errW_none, errW_some] <;> rfl), by repeat (first | (with_reducible first | exact HB.out | apply below_alloc | apply pw_below_drewN | apply below_drew1 | refine below_set ?_ GE101.out | refine below_set ?_ GE102.out) | exact HB.out)⟩
        ·rw [if_neg c16] at H
         exact absurd H (by simp)
       ·rw [if_neg c15] at H
        exact absurd H (by simp)
      ·rw [if_neg c14] at H
       have c14b0 : decide (x5_2 < (l0_1.length : Int)) = false := decide_eq_false c14
       clear c14
       obtain rfl := Option.some.inj H
       have hnb24 := NB101_102.out
       have hnc24 := NB102_101.out
       have hcz25_0 : wr.cell? ⟨gb101, 0, none⟩ = some (.int .i64 a0_0) := (blk_cell BK101.out 0).trans rfl
       have hcz25_1 : wr.cell? ⟨gb101, 1, none⟩ = some (.slice A0_1 l0_1.length c0_1) := (blk_cell BK101.out 1).trans rfl
       have hfz25_0 := blk_frozen BK101.out 0
       have hfz25_1 := blk_frozen BK101.out 1
       go_wp2
       repeat (go_quiet (fail); try go_wp2)
       go_ret
       exact ⟨by first | rfl | (simp [errW_none, errW_some] <;> rfl) | (simp [*, errW_none, errW_some] <;> rfl), by repeat (first | (with_reducible first | exact HB.out | apply below_alloc | apply pw_below_drewN | apply below_drew1 | refine below_set ?_ GE101.out | refine below_set ?_ GE102.out) | exact HB.out)⟩
def wickerref02_Find.l0 : Nat → List (S87) → Int → Int → List Int → Option (Int)
 | 0, _, _, _, _ => none
 | k + 1, x0, x5, x102000, x102001 => if x5 < (x0.length : Int) then (if 0 ≤ x5 then ((wickerref02_Same.f k ((rd_T87 x0 x5).f0) ((rd_T87 x0 x5).f1) x102000 x102001).bind fun t103 => (if t103 = true then (some x5) else (wickerref02_Find.l0 k x0 (wrap64 (x5 + 1)) x102000 x102001))) else (none)) else (some (-1))
def wickerref02_Find.f (k : Nat) (l0 : List (S87)) (a1_0 : Int) (l1_1 : List Int) : Option (Int) := wickerref02_Find.l0 k l0 0 a1_0 l1_1
set_option maxHeartbeats 8000000 in
set_option maxRecDepth 100000 in
theorem wickerref02_Find.calls (k : Nat) (A0 : Option Addr) (c0 : Nat) (l0 : List (S87)) (a1_0 : Int) (A1_1 : Option Addr) (c1_1 : Nat) (l1_1 : List Int) (r : Int) (w : World) (hr0 : Kd.C k87 w A0 l0.length l0) (hc0 : l0.length ≤ c0) (hr1_1 : Kd.C (Kd.int .i64) w A1_1 l1_1.length l1_1) (hc1_1 : l1_1.length ≤ c1_1) (h : wickerref02_Find.f k l0 a1_0 l1_1 = some r) :
  Calls Tryd.prog 107 #[.slice A0 l0.length c0, .agg #[.int .i64 a1_0, .slice A1_1 l1_1.length c1_1]] w fun e w' => e = .returned (.int .i64 r) ∧ Below w.heap.size w w' := by
 have hu87 := Tryd.underlying87
 have HR0 := Aside0.mk hr0
 have HC0 := Aside0.mk hc0
 clear hr0 hc0
 have HR1_1 := Aside0.mk hr1_1
 have HC1_1 := Aside0.mk hc1_1
 clear hr1_1 hc1_1
 have HB := Aside0.mk (Below.refl w.heap.size w)
 have H : (wickerref02_Find.l0 k l0 0 a1_0 l1_1) = some r := h
 clear h
 have H' := Aside0.mk H
 clear H
 go_enter Tryd.func107, Tryd.ntmps107
 go_wp2_with (first | ((with_reducible refine gate_dst (N := 3) rfl ?_); refine box_event ?hg (N := 3) ?hd (cs := #[.int .i64 a1_0, .slice A1_1 l1_1.length c1_1]) (t := 87) ?hr ?_; (case hd => rfl); (case hg => rfl); (case hr => first | (go_simp; done) | (go_simp; rfl)); intro gb101 hg w3 hbox hb; have n0_ := Aside0.mk (below_step (by repeat (first | (with_reducible first | exact HB.out | apply below_alloc | apply pw_below_drewN | apply below_drew1) | exact HB.out)) hb); have n1_ := Aside0.mk (hbox); have n2_ := Aside0.mk ((by rw [hg]; exact (below_size (by repeat (first | (with_reducible first | exact HB.out | apply below_alloc | apply pw_below_drewN | apply below_drew1) | exact HB.out))) : w.heap.size ≤ gb101)); have n3_ := Aside0.mk ((by rw [hg]; exact (below_size (by repeat (first | (with_reducible first | exact HB.out | apply below_alloc | apply pw_below_drewN | apply below_drew1) | exact HB.out))) : w.heap.size ≤ gb101)); clear HB; have HB := n0_; have BK101 := n1_; have GW101 := n2_; have GE101 := n3_; clear n0_ n1_ n2_ n3_; clear hb hbox hg))
 go_loopg [5] k (fun kq v5 w' => ∃ (x5_1 : Int), v5 = .int .i64 x5_1 ∧ Aside0 (wickerref02_Find.l0 kq l0 x5_1 a1_0 l1_1 = some r) ∧ Aside0 (kq ≤ k) ∧ Aside0 (w'.heap[gb101]? = some (.cells #[.int .i64 a1_0, (.slice A1_1 l1_1.length c1_1)] 87 (0, 0))) ∧ Aside0 (Below w.heap.size w w'))
 case atStart => exact ⟨(0), (by first | rfl | (simp; done) | (simp [*]; done)), H', ⟨Nat.le_refl _⟩, ⟨by (with_reducible repeat (first | refine blk_drewN ?_ _ | refine blk_drew ?_ | refine blk_alloc ?_ _)); exact BK101.out⟩, ⟨by repeat (first | (with_reducible first | exact HB.out | apply below_alloc | apply pw_below_drewN | apply below_drew1 | refine below_set ?_ GE101.out) | exact HB.out)⟩⟩
 case round =>
  clear H'
  try clear c1
  try clear p2
  obtain ⟨x5_1, rfl, HA, HK1, BK101, HB⟩ := hrel
  cases gk with
  | zero => exact absurd HA.out (by simp [wickerref02_Find.l0])
  | succ k1 =>
   have H := HA.out
   clear HA
   simp only [wickerref02_Find.l0] at H
   by_cases c4 : x5_1 < (l0.length : Int)
   ·rw [if_pos c4] at H
    have c4b0 : decide (x5_1 < (l0.length : Int)) = true := decide_eq_true c4
    clear c4
    by_cases c5 : 0 ≤ x5_1
    ·rw [if_pos c5] at H
     have c5b0 : decide (0 ≤ x5_1) = true := decide_eq_true c5
     clear c5
     replace H := Option.bind_eq_some_iff.mp H
     obtain ⟨t103, A60, H⟩ := H
     replace H : (if t103 = true then (some x5_1) else (wickerref02_Find.l0 k1 l0 (wrap64 (x5_1 + 1)) a1_0 l1_1)) = some r := H
     have A6 := Aside0.mk A60
     clear A60
     by_cases c7 : t103 = true
     ·subst c7
      have H1 : (some x5_1) = some r := by rw [if_pos rfl] at H; exact H
      clear H
      have H := H1
      clear H1
      obtain rfl := Option.some.inj H
      try go_wp2
      have n0_ := Aside0.mk (blk_drew BK101.out)
      have n1_ := Aside0.mk (below_drew1 HB.out)
      clear BK101
      clear HB
      have BK101 := n0_
      have HB := n1_
      clear n0_ n1_
      have p102 : 0 ≤ (x5_1 : Int) := of_decide_eq_true (by first | (with_reducible assumption) | assumption)
      have q102 : x5_1 < (l0.length : Int) := of_decide_eq_true (by first | (with_reducible assumption) | assumption)
      obtain ⟨ad102, A102_1, c102_1, e102, hx102_0, hx102_1, hl102_1, hi102_1⟩ := at_T87 HR0.out x5_1 p102 q102
      have hw102_1 := hx102_1
      have hw102_0 := hx102_0
      cases e102
      replace hx102_0 := (HB.out.cell (World.block_lt_of_cell? w _ hx102_0)).trans hx102_0
      replace hx102_1 := (HB.out.cell (World.block_lt_of_cell? w _ hx102_1)).trans hx102_1
      have HR102_1 := Aside0.mk hi102_1
      have HC102_1 := Aside0.mk hl102_1
      clear hi102_1 hl102_1
      replace p102 := eq_true p102
      replace q102 := eq_true q102
      refine start_ (n := 6) (S := fun w' => w'.cell? ⟨gb101, 0, none⟩ = some (.int .i64 a1_0) ∧ w'.cell? ⟨gb101, 1, none⟩ = some (.slice A1_1 l1_1.length c1_1) ∧ w'.cell? (ad102.add ((x5_1).toNat * 2)) = some (.int .i64 ((rd_T87 l0 x5_1).f0)) ∧ w'.cell? ⟨(ad102.add ((x5_1).toNat * 2)).block, (ad102.add ((x5_1).toNat * 2)).off + 1, none⟩ = some (.slice A102_1 ((rd_T87 l0 x5_1).f1).length c102_1)) (ds := []) #[false, false, false, false, false, false] (by kernel_rfl) rfl rfl ⟨(blk_cell BK101.out 0).trans rfl, (blk_cell BK101.out 1).trans rfl, ((HB.out.cell (World.block_lt_of_cell? w _ hw102_0)).trans hw102_0), ((HB.out.cell (World.block_lt_of_cell? w _ hw102_1)).trans hw102_1)⟩ (fun hHeld => ?_)
      generalize wr.drew = w8 at BK101 HB HR102_1 hx102_0 hx102_1 hHeld ⊢
      refine pure_ (i := 0) (N := some 12) (v := ?_) (a' := ?_) #[true, false, false, false, false, false] rfl rfl (by kernel_rfl) (fun _ _ _ h => h) (Or.inl ⟨by rfl, ?_⟩) ?_ ?_
      rotate_left
      ·intro w'
       go_simp
       with_reducible rfl
      rotate_left
      ·simp only [Act.put, List.setIfInBounds_toArray, List.set_cons_zero, List.set_cons_succ, i64_w, i32_w]
       rfl
      refine pure_ (i := 1) (N := some 13) (v := ?_) (a' := ?_) #[true, true, false, false, false, false] rfl rfl (by kernel_rfl) (fun _ _ _ h => h) (Or.inl ⟨by rfl, ?_⟩) ?_ ?_
      rotate_left
      ·intro w'
       go_simp
       with_reducible rfl
      rotate_left
      ·simp only [Act.put, List.setIfInBounds_toArray, List.set_cons_zero, List.set_cons_succ, i64_w, i32_w]
       rfl
      refine pure_ (i := 2) (N := some 14) (v := ?_) (a' := ?_) #[true, true, true, false, false, false] rfl rfl (by kernel_rfl) (fun _ _ _ h => h) (Or.inl ⟨by rfl, ?_⟩) ?_ ?_
      rotate_left
      ·intro w'
       go_simp
       with_reducible rfl
      rotate_left
      ·simp only [Act.put, List.setIfInBounds_toArray, List.set_cons_zero, List.set_cons_succ, i64_w, i32_w]
       rfl
      refine take_ (i := 3) (N := some 15) (v := ?_) (a' := ?_) #[true, true, true, true, false, false] rfl rfl (by kernel_rfl) (fun _ _ _ h => h) (Or.inl ⟨by rfl, ?_⟩) hHeld ?_ ?_
      rotate_left
      ·rintro w' ⟨s0, s1, s2, s3⟩
       go_simp
       with_reducible rfl
      rotate_left
      ·simp only [Act.put, List.setIfInBounds_toArray, List.set_cons_zero, List.set_cons_succ, i64_w, i32_w]
       rfl
      refine take_ (i := 4) (N := some 16) (v := ?_) (a' := ?_) #[true, true, true, true, true, false] rfl rfl (by kernel_rfl) (fun _ _ _ h => h) (Or.inl ⟨by rfl, ?_⟩) hHeld ?_ ?_
      rotate_left
      ·rintro w' ⟨s0, s1, s2, s3⟩
       go_simp
       with_reducible rfl
      rotate_left
      ·simp only [Act.put, List.setIfInBounds_toArray, List.set_cons_zero, List.set_cons_succ, i64_w, i32_w]
       rfl
      refine one_ (i := 5) (N := some 17) #[true, true, true, true, true, true] rfl rfl (by kernel_rfl) (by decide) (fun K hK => ?_)
      refine goes_ Tryd.func46 (by kernel_rfl) rfl #[.agg #[.int .i64 ((rd_T87 l0 x5_1).f0), .slice A102_1 ((rd_T87 l0 x5_1).f1).length c102_1], .agg #[.int .i64 a1_0, .slice A1_1 l1_1.length c1_1]] (by rfl) rfl rfl (by (try simp only [List.map_toArray, List.map_cons, List.map_nil]); first | done | rfl | (simp only [List.length_drop, List.length_take]; rfl)) ?_
      with_reducible refine (wickerref02_Same.calls k1 ((rd_T87 l0 x5_1).f0) _ _ ((rd_T87 l0 x5_1).f1) a1_0 _ _ l1_1 true _ ?side1 ?side2 ?side3 ?side4 A6.out).mono ?_
      (case side1 => repeat (first | exact (Kd.C_below HR102_1.out HB.out) | (with_reducible refine Kd.C_alloc ?_ _) | (with_reducible refine Kd.C_drewN ?_ _) | (with_reducible refine Kd.C_drew ?_)))
      (case side2 => exact HC102_1.out)
      (case side3 => repeat (first | exact (Kd.C_below HR1_1.out HB.out) | (with_reducible refine Kd.C_alloc ?_ _) | (with_reducible refine Kd.C_drewN ?_ _) | (with_reducible refine Kd.C_drew ?_)))
      (case side4 => exact HC1_1.out)
      rintro e w9 ⟨rfl, hb⟩
      refine ⟨_, rfl, ?_⟩
      have n0_ := Aside0.mk (blk_below (g := gb101) (o := .cells #[.int .i64 a1_0, .slice A1_1 l1_1.length c1_1] 87 (0, 0)) (by (with_reducible repeat (first | refine blk_drewN ?_ _ | refine blk_drew ?_ | refine blk_alloc ?_ _)); exact BK101.out) hb)
      have n1_ := Aside0.mk (below_step (by repeat (first | (with_reducible first | exact HB.out | apply below_alloc | apply pw_below_drewN | apply below_drew1 | refine below_set ?_ GE101.out) | exact HB.out)) hb)
      clear BK101
      clear HB
      have BK101 := n0_
      have HB := n1_
      clear n0_ n1_
      (try clear hb)
      (try clear hb2)
      (try clear hk)
      (try clear hi)
      refine hK.out _ _ ⟨(blk_cell BK101.out 0).trans rfl, (blk_cell BK101.out 1).trans rfl, ((HB.out.cell (World.block_lt_of_cell? w _ hw102_0)).trans hw102_0), ((HB.out.cell (World.block_lt_of_cell? w _ hw102_1)).trans hw102_1)⟩ (fun hHeld => ?_)
      clear hK K
      refine norm_ (a' := ?_) ?_ ?_
      rotate_left
      ·show Act.put _ (some 17) _ = _
       simp only [Act.put, List.setIfInBounds_toArray, List.set_cons_zero, List.set_cons_succ, i64_w, i32_w]
       rfl
      refine done_ (by kernel_rfl) ?_
      try go_wp2
      go_ret
      exact ⟨by first | rfl | (simp [errW_none, errW_some] <;> rfl) | (simp [*, errW_none, errW_some] <;> rfl), by repeat (first | (with_reducible first | exact HB.out | apply below_alloc | apply pw_below_drewN | apply below_drew1 | refine below_set ?_ GE101.out) | exact HB.out)⟩
     ·replace c7 := Bool.eq_false_iff.mpr c7
      subst c7
      have H1 : (wickerref02_Find.l0 k1 l0 (wrap64 (x5_1 + 1)) a1_0 l1_1) = some r := by rw [if_neg (show ¬ (false = true) by decide)] at H; exact H
      clear H
      have H := H1
      clear H1
      have H' := Aside0.mk H
      clear H
      try go_wp2
      have n0_ := Aside0.mk (blk_drew BK101.out)
      have n1_ := Aside0.mk (below_drew1 HB.out)
      clear BK101
      clear HB
      have BK101 := n0_
      have HB := n1_
      clear n0_ n1_
      have p102 : 0 ≤ (x5_1 : Int) := of_decide_eq_true (by first | (with_reducible assumption) | assumption)
      have q102 : x5_1 < (l0.length : Int) := of_decide_eq_true (by first | (with_reducible assumption) | assumption)
      obtain ⟨ad102, A102_1, c102_1, e102, hx102_0, hx102_1, hl102_1, hi102_1⟩ := at_T87 HR0.out x5_1 p102 q102
      have hw102_1 := hx102_1
      have hw102_0 := hx102_0
      cases e102
      replace hx102_0 := (HB.out.cell (World.block_lt_of_cell? w _ hx102_0)).trans hx102_0
      replace hx102_1 := (HB.out.cell (World.block_lt_of_cell? w _ hx102_1)).trans hx102_1
      have HR102_1 := Aside0.mk hi102_1
      have HC102_1 := Aside0.mk hl102_1
      clear hi102_1 hl102_1
      replace p102 := eq_true p102
      replace q102 := eq_true q102
      refine start_ (n := 6) (S := fun w' => w'.cell? ⟨gb101, 0, none⟩ = some (.int .i64 a1_0) ∧ w'.cell? ⟨gb101, 1, none⟩ = some (.slice A1_1 l1_1.length c1_1) ∧ w'.cell? (ad102.add ((x5_1).toNat * 2)) = some (.int .i64 ((rd_T87 l0 x5_1).f0)) ∧ w'.cell? ⟨(ad102.add ((x5_1).toNat * 2)).block, (ad102.add ((x5_1).toNat * 2)).off + 1, none⟩ = some (.slice A102_1 ((rd_T87 l0 x5_1).f1).length c102_1)) (ds := []) #[false, false, false, false, false, false] (by kernel_rfl) rfl rfl ⟨(blk_cell BK101.out 0).trans rfl, (blk_cell BK101.out 1).trans rfl, ((HB.out.cell (World.block_lt_of_cell? w _ hw102_0)).trans hw102_0), ((HB.out.cell (World.block_lt_of_cell? w _ hw102_1)).trans hw102_1)⟩ (fun hHeld => ?_)
      generalize wr.drew = w10 at BK101 HB HR102_1 hx102_0 hx102_1 hHeld ⊢
      refine pure_ (i := 0) (N := some 12) (v := ?_) (a' := ?_) #[true, false, false, false, false, false] rfl rfl (by kernel_rfl) (fun _ _ _ h => h) (Or.inl ⟨by rfl, ?_⟩) ?_ ?_
      rotate_left
      ·intro w'
       go_simp
       with_reducible rfl
      rotate_left
      ·simp only [Act.put, List.setIfInBounds_toArray, List.set_cons_zero, List.set_cons_succ, i64_w, i32_w]
       rfl
      refine pure_ (i := 1) (N := some 13) (v := ?_) (a' := ?_) #[true, true, false, false, false, false] rfl rfl (by kernel_rfl) (fun _ _ _ h => h) (Or.inl ⟨by rfl, ?_⟩) ?_ ?_
      rotate_left
      ·intro w'
       go_simp
       with_reducible rfl
      rotate_left
      ·simp only [Act.put, List.setIfInBounds_toArray, List.set_cons_zero, List.set_cons_succ, i64_w, i32_w]
       rfl
      refine pure_ (i := 2) (N := some 14) (v := ?_) (a' := ?_) #[true, true, true, false, false, false] rfl rfl (by kernel_rfl) (fun _ _ _ h => h) (Or.inl ⟨by rfl, ?_⟩) ?_ ?_
      rotate_left
      ·intro w'
       go_simp
       with_reducible rfl
      rotate_left
      ·simp only [Act.put, List.setIfInBounds_toArray, List.set_cons_zero, List.set_cons_succ, i64_w, i32_w]
       rfl
      refine take_ (i := 3) (N := some 15) (v := ?_) (a' := ?_) #[true, true, true, true, false, false] rfl rfl (by kernel_rfl) (fun _ _ _ h => h) (Or.inl ⟨by rfl, ?_⟩) hHeld ?_ ?_
      rotate_left
      ·rintro w' ⟨s0, s1, s2, s3⟩
       go_simp
       with_reducible rfl
      rotate_left
      ·simp only [Act.put, List.setIfInBounds_toArray, List.set_cons_zero, List.set_cons_succ, i64_w, i32_w]
       rfl
      refine take_ (i := 4) (N := some 16) (v := ?_) (a' := ?_) #[true, true, true, true, true, false] rfl rfl (by kernel_rfl) (fun _ _ _ h => h) (Or.inl ⟨by rfl, ?_⟩) hHeld ?_ ?_
      rotate_left
      ·rintro w' ⟨s0, s1, s2, s3⟩
       go_simp
       with_reducible rfl
      rotate_left
      ·simp only [Act.put, List.setIfInBounds_toArray, List.set_cons_zero, List.set_cons_succ, i64_w, i32_w]
       rfl
      refine one_ (i := 5) (N := some 17) #[true, true, true, true, true, true] rfl rfl (by kernel_rfl) (by decide) (fun K hK => ?_)
      refine goes_ Tryd.func46 (by kernel_rfl) rfl #[.agg #[.int .i64 ((rd_T87 l0 x5_1).f0), .slice A102_1 ((rd_T87 l0 x5_1).f1).length c102_1], .agg #[.int .i64 a1_0, .slice A1_1 l1_1.length c1_1]] (by rfl) rfl rfl (by (try simp only [List.map_toArray, List.map_cons, List.map_nil]); first | done | rfl | (simp only [List.length_drop, List.length_take]; rfl)) ?_
      with_reducible refine (wickerref02_Same.calls k1 ((rd_T87 l0 x5_1).f0) _ _ ((rd_T87 l0 x5_1).f1) a1_0 _ _ l1_1 false _ ?side1 ?side2 ?side3 ?side4 A6.out).mono ?_
      (case side1 => repeat (first | exact (Kd.C_below HR102_1.out HB.out) | (with_reducible refine Kd.C_alloc ?_ _) | (with_reducible refine Kd.C_drewN ?_ _) | (with_reducible refine Kd.C_drew ?_)))
      (case side2 => exact HC102_1.out)
      (case side3 => repeat (first | exact (Kd.C_below HR1_1.out HB.out) | (with_reducible refine Kd.C_alloc ?_ _) | (with_reducible refine Kd.C_drewN ?_ _) | (with_reducible refine Kd.C_drew ?_)))
      (case side4 => exact HC1_1.out)
      rintro e w11 ⟨rfl, hb⟩
      refine ⟨_, rfl, ?_⟩
      have n0_ := Aside0.mk (blk_below (g := gb101) (o := .cells #[.int .i64 a1_0, .slice A1_1 l1_1.length c1_1] 87 (0, 0)) (by (with_reducible repeat (first | refine blk_drewN ?_ _ | refine blk_drew ?_ | refine blk_alloc ?_ _)); exact BK101.out) hb)
      have n1_ := Aside0.mk (below_step (by repeat (first | (with_reducible first | exact HB.out | apply below_alloc | apply pw_below_drewN | apply below_drew1 | refine below_set ?_ GE101.out) | exact HB.out)) hb)
      clear BK101
      clear HB
      have BK101 := n0_
      have HB := n1_
      clear n0_ n1_
      (try clear hb)
      (try clear hb2)
      (try clear hk)
      (try clear hi)
      refine hK.out _ _ ⟨(blk_cell BK101.out 0).trans rfl, (blk_cell BK101.out 1).trans rfl, ((HB.out.cell (World.block_lt_of_cell? w _ hw102_0)).trans hw102_0), ((HB.out.cell (World.block_lt_of_cell? w _ hw102_1)).trans hw102_1)⟩ (fun hHeld => ?_)
      clear hK K
      refine norm_ (a' := ?_) ?_ ?_
      rotate_left
      ·show Act.put _ (some 17) _ = _
       simp only [Act.put, List.setIfInBounds_toArray, List.set_cons_zero, List.set_cons_succ, i64_w, i32_w]
       rfl
      refine done_ (by kernel_rfl) ?_
      try go_wp2
      go_roundg k1
      case measure => have := HK1.out; omega
      case rel => exact ⟨(wrap64 (x5_1 + 1)), (by first | rfl | (simp; done) | (simp [*]; done)), H', ⟨by have := HK1.out; omega⟩, ⟨by (with_reducible repeat (first | refine blk_drewN ?_ _ | refine blk_drew ?_ | refine blk_alloc ?_ _)); exact BK101.out⟩, ⟨by repeat (first | (with_reducible first | exact HB.out | apply below_alloc | apply pw_below_drewN | apply below_drew1 | refine below_set ?_ GE101.out) | exact HB.out)⟩⟩
    ·rw [if_neg c5] at H
     exact absurd H (by simp)
   ·rw [if_neg c4] at H
    have c4b0 : decide (x5_1 < (l0.length : Int)) = false := decide_eq_false c4
    clear c4
    obtain rfl := Option.some.inj H
    go_wp2
    go_ret
    exact ⟨by first | rfl | (simp [errW_none, errW_some] <;> rfl) | (simp [*, errW_none, errW_some] <;> rfl), by repeat (first | (with_reducible first | exact HB.out | apply below_alloc | apply pw_below_drewN | apply below_drew1 | refine below_set ?_ GE101.out) | exact HB.out)⟩
mutual
def wickerref02_twice.l0 : Nat → List ByteArray → Int → Option (Bool)
 | 0, _, _ => none
 | k + 1, x0, x3 => if x3 < (x0.length : Int) then (wickerref02_twice.l1 k x0 x3 0) else (some false)
def wickerref02_twice.l1 : Nat → List ByteArray → Int → Int → Option (Bool)
 | 0, _, _, _ => none
 | k + 1, x0, x3, x4 => if x4 < x3 then (if 0 ≤ x3 then (if x3 < (x0.length : Int) then (if 0 ≤ x4 then (if x4 < (x0.length : Int) then (if (rdOf ByteArray.empty x0 x3).toList = (rdOf ByteArray.empty x0 x4).toList then (some true) else (wickerref02_twice.l1 k x0 x3 (wrap64 (x4 + 1)))) else (none)) else (none)) else (none)) else (none)) else (wickerref02_twice.l0 k x0 (wrap64 (x3 + 1)))
end
def wickerref02_twice.f (k : Nat) (l0 : List ByteArray) : Option (Bool) := wickerref02_twice.l0 k l0 0
set_option maxHeartbeats 8000000 in
set_option maxRecDepth 100000 in
theorem wickerref02_twice.calls (k : Nat) (A0 : Option Addr) (c0 : Nat) (l0 : List ByteArray) (r : Bool) (w : World) (hr0 : Kd.C Kd.string w A0 l0.length l0) (hc0 : l0.length ≤ c0) (h : wickerref02_twice.f k l0 = some r) :
  Calls Tryd.prog 135 #[.slice A0 l0.length c0] w fun e w' => e = .returned (.bool r) ∧ Drawn0 w w' := by
 have HR0 := Aside0.mk hr0
 have HC0 := Aside0.mk hc0
 clear hr0 hc0
 have H : (wickerref02_twice.l0 k l0 0) = some r := h
 clear h
 have H' := Aside0.mk H
 clear H
 go_enter Tryd.func135, Tryd.ntmps135
 go_wp2
 repeat (go_quiet (fail); try go_wp2)
 go_loopg [3] k (fun kq v3 w' => ∃ (x3_1 : Int), v3 = .int .i64 x3_1 ∧ Aside0 (wickerref02_twice.l0 kq l0 x3_1 = some r) ∧ Aside0 (kq ≤ k) ∧ Drawn0 w w')
 case atStart => exact ⟨(0), (by first | rfl | (simp; done) | (simp [*]; done)), H', ⟨Nat.le_refl _⟩, by repeat (first | exact Drawn0.refl _ | apply Drawn0.step)⟩
 case round =>
  clear H'
  try clear c1
  obtain ⟨x3_1, rfl, HA, HK1, ⟨m1, rfl⟩⟩ := hrel
  cases gk with
  | zero => exact absurd HA.out (by simp [wickerref02_twice.l0])
  | succ k1 =>
   have H := HA.out
   clear HA
   simp only [wickerref02_twice.l0] at H
   by_cases c2 : x3_1 < (l0.length : Int)
   ·rw [if_pos c2] at H
    have c2b0 : decide (x3_1 < (l0.length : Int)) = true := decide_eq_true c2
    clear c2
    have H' := Aside0.mk H
    clear H
    go_wp2
    repeat (go_quiet (fail); try go_wp2)
    go_loopg [4] k1 (fun kq v4 w' => ∃ (x4_2 : Int), v4 = .int .i64 x4_2 ∧ Aside0 (wickerref02_twice.l1 kq l0 x3_1 x4_2 = some r) ∧ Aside0 (kq ≤ k1) ∧ Drawn0 w w')
    case atStart => exact ⟨(0), (by first | rfl | (simp; done) | (simp [*]; done)), H', ⟨Nat.le_refl _⟩, by repeat (first | exact Drawn0.refl _ | apply Drawn0.step)⟩
    case round =>
     clear H'
     try clear c1
     try clear c2
     try clear c2b0
     try clear p2
     obtain ⟨x4_2, rfl, HA, HK2, ⟨m2, rfl⟩⟩ := hrel
     cases gk with
     | zero => exact absurd HA.out (by simp [wickerref02_twice.l1])
     | succ k2 =>
      have H := HA.out
      clear HA
      simp only [wickerref02_twice.l1] at H
      by_cases c3 : x4_2 < x3_1
      ·rw [if_pos c3] at H
       have c3b0 : decide (x4_2 < x3_1) = true := decide_eq_true c3
       clear c3
       by_cases c4 : 0 ≤ x3_1
       ·rw [if_pos c4] at H
        have c4b0 : decide (0 ≤ x3_1) = true := decide_eq_true c4
        clear c4
        by_cases c5 : x3_1 < (l0.length : Int)
        ·rw [if_pos c5] at H
         have c5b0 : decide (x3_1 < (l0.length : Int)) = true := decide_eq_true c5
         clear c5
         by_cases c6 : 0 ≤ x4_2
         ·rw [if_pos c6] at H
          have c6b0 : decide (0 ≤ x4_2) = true := decide_eq_true c6
          clear c6
          by_cases c7 : x4_2 < (l0.length : Int)
          ·rw [if_pos c7] at H
           have c7b0 : decide (x4_2 < (l0.length : Int)) = true := decide_eq_true c7
           clear c7
           by_cases c8 : (rdOf ByteArray.empty l0 x3_1).toList = (rdOf ByteArray.empty l0 x4_2).toList
           ·rw [if_pos c8] at H
            have c8b0 : ((rdOf ByteArray.empty l0 x3_1).toList == (rdOf ByteArray.empty l0 x4_2).toList) = true := beq_iff_eq.mpr c8
            have c8b1 : ((rdOf ByteArray.empty l0 x3_1).toList != (rdOf ByteArray.empty l0 x4_2).toList) = false := bne_eq_false_iff_eq.mpr c8
            clear c8
            obtain rfl := Option.some.inj H
            have p101 : 0 ≤ (x3_1 : Int) := of_decide_eq_true (by first | (with_reducible assumption) | assumption)
            have q101 : x3_1 < (l0.length : Int) := of_decide_eq_true (by first | (with_reducible assumption) | assumption)
            obtain ⟨ad101, e101, hx101_0⟩ := Kd.at_string HR0.out x3_1 p101 q101
            cases e101
            replace p101 := eq_true p101
            replace q101 := eq_true q101
            have p102 : 0 ≤ (x4_2 : Int) := of_decide_eq_true (by first | (with_reducible assumption) | assumption)
            have q102 : x4_2 < (l0.length : Int) := of_decide_eq_true (by first | (with_reducible assumption) | assumption)
            obtain ⟨ad102, e102, hx102_0⟩ := Kd.at_string HR0.out x4_2 p102 q102
            obtain rfl : ad101 = ad102 := (by injection e102)
            replace p102 := eq_true p102
            replace q102 := eq_true q102
            go_wp2
            repeat (go_quiet (fail); try go_wp2)
            go_ret
            exact ⟨by first | rfl | (simp; done) | (simp [*]; done) | (exfalso; simp only [beq_iff_eq] at *; omega), by repeat (first | exact Drawn0.refl _ | apply Drawn0.step)⟩
           ·rw [if_neg c8] at H
            have c8b0 : ((rdOf ByteArray.empty l0 x3_1).toList == (rdOf ByteArray.empty l0 x4_2).toList) = false := beq_eq_false_iff_ne.mpr c8
            have c8b1 : ((rdOf ByteArray.empty l0 x3_1).toList != (rdOf ByteArray.empty l0 x4_2).toList) = true := bne_iff_ne.mpr c8
            have H' := Aside0.mk H
            clear H
            have p101 : 0 ≤ (x3_1 : Int) := of_decide_eq_true (by first | (with_reducible assumption) | assumption)
            have q101 : x3_1 < (l0.length : Int) := of_decide_eq_true (by first | (with_reducible assumption) | assumption)
            obtain ⟨ad101, e101, hx101_0⟩ := Kd.at_string HR0.out x3_1 p101 q101
            cases e101
            replace p101 := eq_true p101
            replace q101 := eq_true q101
            have p102 : 0 ≤ (x4_2 : Int) := of_decide_eq_true (by first | (with_reducible assumption) | assumption)
            have q102 : x4_2 < (l0.length : Int) := of_decide_eq_true (by first | (with_reducible assumption) | assumption)
            obtain ⟨ad102, e102, hx102_0⟩ := Kd.at_string HR0.out x4_2 p102 q102
            obtain rfl : ad101 = ad102 := (by injection e102)
            replace p102 := eq_true p102
            replace q102 := eq_true q102
            go_wp2
            repeat (go_quiet (fail); try go_wp2)
            go_roundg k2
            case measure => have := HK1.out; have := HK2.out; omega
            case rel => exact ⟨(wrap64 (x4_2 + 1)), (by first | rfl | (simp; done) | (simp [*]; done)), H', ⟨by have := HK1.out; have := HK2.out; omega⟩, by repeat (first | exact Drawn0.refl _ | apply Drawn0.step)⟩
          ·rw [if_neg c7] at H
           exact absurd H (by simp)
         ·rw [if_neg c6] at H
          exact absurd H (by simp)
        ·rw [if_neg c5] at H
         exact absurd H (by simp)
       ·rw [if_neg c4] at H
        exact absurd H (by simp)
      ·rw [if_neg c3] at H
       have c3b0 : decide (x4_2 < x3_1) = false := decide_eq_false c3
       clear c3
       have H' := Aside0.mk H
       clear H
       go_wp2
       repeat (go_quiet (fail); try go_wp2)
       go_roundg k2
       case measure => have := HK1.out; have := HK2.out; omega
       case rel => exact ⟨(wrap64 (x3_1 + 1)), (by first | rfl | (simp; done) | (simp [*]; done)), H', ⟨by have := HK1.out; have := HK2.out; omega⟩, by repeat (first | exact Drawn0.refl _ | apply Drawn0.step)⟩
   ·rw [if_neg c2] at H
    have c2b0 : decide (x3_1 < (l0.length : Int)) = false := decide_eq_false c2
    clear c2
    obtain rfl := Option.some.inj H
    go_wp2
    repeat (go_quiet (fail); try go_wp2)
    go_ret
    exact ⟨by first | rfl | (simp; done) | (simp [*]; done) | (exfalso; simp only [beq_iff_eq] at *; omega), by repeat (first | exact Drawn0.refl _ | apply Drawn0.step)⟩
end Go.Proofs.YtmdjmbdeeodehaaDoor.G
end
section
namespace Go.Proofs.YtmdjmbdeeodehaaDoor.G
open Go.RowKit Go.Proofs.YtmdjmbdeeodehaaDoorW.PrintWords Go.Proofs.YtmdjmbdeeodehaaDoorW.PrintLast Go.Proofs.YtmdjmbdeeodehaaDoorW.PrintMore
attribute [local go_sem] max2_int min2_int max_two min_two max_three min_three max_four min_four
attribute [local go_sem] Go.Proofs.YtmdjmbdeeodehaaDoorOwn.isSome_setCell
set_option linter.unusedVariables false
set_option linter.unusedSimpArgs false
mutual
def wickerref02_Check.j0 : Nat → Bool → List ByteArray → List ByteArray → Int → List (S87) → Option (Int)
 | 0, _, _, _, _, _ => none
 | k + 1, x30, x102000, x102001, x102002, x102003 => if x30 = true then (some 11) else (wickerref02_Check.l0 k 0 x102000 x102001 x102002 x102003)
def wickerref02_Check.l0 : Nat → Int → List ByteArray → List ByteArray → Int → List (S87) → Option (Int)
 | 0, _, _, _, _, _ => none
 | k + 1, x3, x102000, x102001, x102002, x102003 => if x3 < (x102000.length : Int) then (if 0 ≤ x3 then ((wickerref01_Name.f k (rdOf ByteArray.empty x102000 x3)).bind fun t103 => (if t103 = true then (wickerref02_Check.l0 k (wrap64 (x3 + 1)) x102000 x102001 x102002 x102003) else (some 1))) else (none)) else (wickerref02_Check.l1 k 0 x102000 x102001 x102002 x102003)
def wickerref02_Check.l1 : Nat → Int → List ByteArray → List ByteArray → Int → List (S87) → Option (Int)
 | 0, _, _, _, _, _ => none
 | k + 1, x4, x102000, x102001, x102002, x102003 => if x4 < (x102001.length : Int) then (if 0 ≤ x4 then ((wickerref01_Mark.f (rdOf ByteArray.empty x102001 x4)).bind fun t105 => (if t105 = true then (wickerref02_Check.l1 k (wrap64 (x4 + 1)) x102000 x102001 x102002 x102003) else (some 1))) else (none)) else ((wickerref02_twice.f k x102000).bind fun t106 => (if t106 = true then (wickerref02_Check.j3 k true x102000 x102001 x102002 x102003) else ((wickerref02_twice.f k x102001).bind fun t107 => (wickerref02_Check.j3 k t107 x102000 x102001 x102002 x102003))))
def wickerref02_Check.j3 : Nat → Bool → List ByteArray → List ByteArray → Int → List (S87) → Option (Int)
 | 0, _, _, _, _, _ => none
 | k + 1, x66, x102000, x102001, x102002, x102003 => if x66 = true then (some 2) else (if x102002 < 0 then (wickerref02_Check.j4 k true x102000 x102001 x102002 x102003) else (wickerref02_Check.j4 k (decide (x102002 ≥ (x102000.length : Int))) x102000 x102001 x102002 x102003))
def wickerref02_Check.j4 : Nat → Bool → List ByteArray → List ByteArray → Int → List (S87) → Option (Int)
 | 0, _, _, _, _, _ => none
 | k + 1, x77, x102000, x102001, x102002, x102003 => if x77 = true then (some 3) else (wickerref02_Check.l2 k 0 x102000 x102001 x102002 x102003)
def wickerref02_Check.l2 : Nat → Int → List ByteArray → List ByteArray → Int → List (S87) → Option (Int)
 | 0, _, _, _, _, _ => none
 | k + 1, x5, x102000, x102001, x102002, x102003 => if x5 < (x102003.length : Int) then (if 0 ≤ x5 then (if ((rd_T87 x102003 x5).f0) < 0 then (wickerref02_Check.j6 k x5 true x102000 x102001 x102002 x102003 ((rd_T87 x102003 x5).f0) ((rd_T87 x102003 x5).f1)) else (wickerref02_Check.j6 k x5 (decide (((rd_T87 x102003 x5).f0) ≥ (x102000.length : Int))) x102000 x102001 x102002 x102003 ((rd_T87 x102003 x5).f0) ((rd_T87 x102003 x5).f1))) else (none)) else (wickerref02_Check.l4 k 0 x102000 x102001 x102002 x102003)
def wickerref02_Check.j6 : Nat → Int → Bool → List ByteArray → List ByteArray → Int → List (S87) → Int → List Int → Option (Int)
 | 0, _, _, _, _, _, _, _, _ => none
 | k + 1, x5, x100, x102000, x102001, x102002, x102003, x110000, x110001 => if x100 = true then (some 3) else (wickerref02_Check.l3 k x5 0 x102000 x102001 x102002 x102003 x110000 x110001)
def wickerref02_Check.l3 : Nat → Int → Int → List ByteArray → List ByteArray → Int → List (S87) → Int → List Int → Option (Int)
 | 0, _, _, _, _, _, _, _, _ => none
 | k + 1, x5, x7, x102000, x102001, x102002, x102003, x110000, x110001 => if x7 < (x110001.length : Int) then (if 0 ≤ x7 then ((wickerref02_Has.f x102000 x102001 x102002 x102003 (rd x110001 x7)).bind fun t111 => (if t111 = true then (wickerref02_Check.l3 k x5 (wrap64 (x7 + 1)) x102000 x102001 x102002 x102003 x110000 x110001) else (some 3))) else (none)) else (if (x110001.length : Int) > 64 then (some 5) else (wickerref02_Check.l2 k (wrap64 (x5 + 1)) x102000 x102001 x102002 x102003))
def wickerref02_Check.l4 : Nat → Int → List ByteArray → List ByteArray → Int → List (S87) → Option (Int)
 | 0, _, _, _, _, _ => none
 | k + 1, x8, x102000, x102001, x102002, x102003 => if x8 < (x102003.length : Int) then (if 0 ≤ x8 then ((wickerref02_Find.f k x102003 ((rd_T87 x102003 x8).f0) ((rd_T87 x102003 x8).f1)).bind fun t113 => (if t113 < x8 then (some 2) else (wickerref02_Check.l4 k (wrap64 (x8 + 1)) x102000 x102001 x102002 x102003))) else (none)) else (some 0)
end
def wickerref02_Check.f (k : Nat) (l0_0 : List ByteArray) (l0_1 : List ByteArray) (a0_2 : Int) (l0_3 : List (S87)) : Option (Int) := if (l0_0.length : Int) < 1 then (wickerref02_Check.j0 k true l0_0 l0_1 a0_2 l0_3) else (if (l0_0.length : Int) > 2048 then (wickerref02_Check.j0 k true l0_0 l0_1 a0_2 l0_3) else (if (l0_1.length : Int) > 2048 then (wickerref02_Check.j0 k true l0_0 l0_1 a0_2 l0_3) else (wickerref02_Check.j0 k (decide ((l0_3.length : Int) > 8192)) l0_0 l0_1 a0_2 l0_3)))
def wickerref02_Check.T26 : Bool × List (List Nat × List Nat) := (true, [([], []), ([], []), ([1], [1]), ([], []), ([2, 3], [2, 3]), ([4], [4]), ([0, 5], [0, 5]), ([6], [6])])
def wickerref02_Check.B26 : List Nat := [0, 0, 2, 0, 14, 30, 63, 127]
theorem wickerref02_Check.tab26 : rtab .any (opsOf Tryd.f84 26) = wickerref02_Check.T26 := by kernel_rfl
theorem wickerref02_Check.bits26 : waitsOk wickerref02_Check.T26.2 wickerref02_Check.B26 = true := by kernel_rfl
def wickerref02_Check.T33 : Bool × List (List Nat × List Nat) := (true, [([], []), ([0], [0]), ([], []), ([2], [2]), ([], []), ([3, 4], [3, 4]), ([5], [5]), ([1, 6], [1, 6]), ([], []), ([7, 8], [7, 8])])
def wickerref02_Check.B33 : List Nat := [0, 1, 0, 4, 0, 28, 60, 127, 0, 511]
theorem wickerref02_Check.tab33 : rtab .any (opsOf Tryd.f84 33) = wickerref02_Check.T33 := by kernel_rfl
theorem wickerref02_Check.bits33 : waitsOk wickerref02_Check.T33.2 wickerref02_Check.B33 = true := by kernel_rfl
set_option maxHeartbeats 8000000 in
set_option maxRecDepth 100000 in
theorem wickerref02_Check.calls (k : Nat) (A0_0 : Option Addr) (c0_0 : Nat) (l0_0 : List ByteArray) (A0_1 : Option Addr) (c0_1 : Nat) (l0_1 : List ByteArray) (a0_2 : Int) (A0_3 : Option Addr) (c0_3 : Nat) (l0_3 : List (S87)) (r : Int) (w : World) (hr0_0 : Kd.C Kd.string w A0_0 l0_0.length l0_0) (hc0_0 : l0_0.length ≤ c0_0) (hr0_1 : Kd.C Kd.string w A0_1 l0_1.length l0_1) (hc0_1 : l0_1.length ≤ c0_1) (hr0_3 : Kd.C k87 w A0_3 l0_3.length l0_3) (hc0_3 : l0_3.length ≤ c0_3) (h : wickerref02_Check.f k l0_0 l0_1 a0_2 l0_3 = some r) :
  Calls Tryd.prog 84 #[.agg #[.slice A0_0 l0_0.length c0_0, .slice A0_1 l0_1.length c0_1, .int .i64 a0_2, .slice A0_3 l0_3.length c0_3]] w fun e w' => e = .returned (.int .i64 r) ∧ Below w.heap.size w w' := by
 have hu63 := Tryd.underlying63
 have hu87 := Tryd.underlying87
 have HR0_0 := Aside0.mk hr0_0
 have HC0_0 := Aside0.mk hc0_0
 clear hr0_0 hc0_0
 have HR0_1 := Aside0.mk hr0_1
 have HC0_1 := Aside0.mk hc0_1
 clear hr0_1 hc0_1
 have HR0_3 := Aside0.mk hr0_3
 have HC0_3 := Aside0.mk hc0_3
 clear hr0_3 hc0_3
 have HB := Aside0.mk (Below.refl w.heap.size w)
 have H : (if (l0_0.length : Int) < 1 then (wickerref02_Check.j0 k true l0_0 l0_1 a0_2 l0_3) else (if (l0_0.length : Int) > 2048 then (wickerref02_Check.j0 k true l0_0 l0_1 a0_2 l0_3) else (if (l0_1.length : Int) > 2048 then (wickerref02_Check.j0 k true l0_0 l0_1 a0_2 l0_3) else (wickerref02_Check.j0 k (decide ((l0_3.length : Int) > 8192)) l0_0 l0_1 a0_2 l0_3)))) = some r := h
 clear h
 have HC2 := Aside0.mk H
 clear H
 go_enter Tryd.func84, Tryd.ntmps84
 go_upto_region 1 with (first | ((with_reducible refine gate_dst (N := 1) rfl ?_); (try (refine gate_guard (by rfl) ?_; dsimp only)); refine box_event ?hg (N := 1) ?hd (cs := #[.slice A0_0 l0_0.length c0_0, .slice A0_1 l0_1.length c0_1, .int .i64 a0_2, .slice A0_3 l0_3.length c0_3]) (t := 63) ?hr ?_; (case hd => rfl); (case hg => rfl); (case hr => first | (go_simp; done) | (go_simp; rfl)); intro gb101 hg w3 hbox hb; have n0_ := Aside0.mk (below_step (by repeat (first | (with_reducible first | exact HB.out | apply below_alloc | apply pw_below_drewN | apply below_drew1) | exact HB.out)) hb); have n1_ := Aside0.mk (hbox); have n2_ := Aside0.mk ((by rw [hg]; exact (below_size (by repeat (first | (with_reducible first | exact HB.out | apply below_alloc | apply pw_below_drewN | apply below_drew1) | exact HB.out))) : w.heap.size ≤ gb101)); have n3_ := Aside0.mk ((by rw [hg]; exact (below_size (by repeat (first | (with_reducible first | exact HB.out | apply below_alloc | apply pw_below_drewN | apply below_drew1) | exact HB.out))) : w.heap.size ≤ gb101)); clear HB; have HB := n0_; have BK101 := n1_; have GW101 := n2_; have GE101 := n3_; clear n0_ n1_ n2_ n3_; clear hb hbox hg))
 (try simp only [Act.put, List.setIfInBounds_toArray, List.set_cons_zero, List.set_cons_succ])
 go_cut [30] (fun v30 wc => ∃ (kq : Nat) (x30_1 : Bool), v30 = .bool x30_1 ∧ Aside0 (wickerref02_Check.j0 kq x30_1 l0_0 l0_1 a0_2 l0_3 = some r) ∧ Aside0 (kq ≤ k) ∧ Aside0 (wc.heap[gb101]? = some (.cells #[(.slice A0_0 l0_0.length c0_0), (.slice A0_1 l0_1.length c0_1), .int .i64 a0_2, (.slice A0_3 l0_3.length c0_3)] 63 (0, 0))) ∧ Aside0 (Below w.heap.size w wc))
 case first =>
  have H := HC2.out
  clear HC2
  by_cases c4 : (l0_0.length : Int) < 1
  ·rw [if_pos c4] at H
   have c4b0 : decide ((l0_0.length : Int) < 1) = true := decide_eq_true c4
   have c4b1 : decide (l0_0.length < 1) = true := decide_eq_true (by omega)
   clear c4
   (first | rw [c4b0] | (simp only [i64_w, i32_w]; rw [c4b0]) | skip)
   have H' := Aside0.mk H
   clear H
   have hcz5_0 : w3.cell? ⟨gb101, 0, none⟩ = some (.slice A0_0 l0_0.length c0_0) := (blk_cell BK101.out 0).trans rfl
   have hcz5_1 : w3.cell? ⟨gb101, 1, none⟩ = some (.slice A0_1 l0_1.length c0_1) := (blk_cell BK101.out 1).trans rfl
   have hcz5_2 : w3.cell? ⟨gb101, 2, none⟩ = some (.int .i64 a0_2) := (blk_cell BK101.out 2).trans rfl
   have hcz5_3 : w3.cell? ⟨gb101, 3, none⟩ = some (.slice A0_3 l0_3.length c0_3) := (blk_cell BK101.out 3).trans rfl
   have hfz5_0 := blk_frozen BK101.out 0
   have hfz5_1 := blk_frozen BK101.out 1
   have hfz5_2 := blk_frozen BK101.out 2
   have hfz5_3 := blk_frozen BK101.out 3
   go_wp2
   go_meet
   case rel => exact ⟨_, (true), (by first | rfl | (simp; done) | (simp [*]; done)), H', ⟨by first | omega | exact Nat.le_refl _⟩, ⟨by (with_reducible repeat (first | refine blk_drewN ?_ _ | refine blk_drew ?_ | refine blk_alloc ?_ _)); exact BK101.out⟩, ⟨by repeat (first | (with_reducible first | exact HB.out | apply below_alloc | apply pw_below_drewN | apply below_drew1 | refine below_set ?_ GE101.out) | exact HB.out)⟩⟩
  ·rw [if_neg c4] at H
   have c4b0 : decide ((l0_0.length : Int) < 1) = false := decide_eq_false c4
   have c4b1 : decide (l0_0.length < 1) = false := decide_eq_false (by omega)
   clear c4
   (first | rw [c4b0] | (simp only [i64_w, i32_w]; rw [c4b0]) | skip)
   by_cases c6 : (l0_0.length : Int) > 2048
   ·rw [if_pos c6] at H
    have c6b0 : decide (2048 < (l0_0.length : Int)) = true := decide_eq_true c6
    have c6b1 : decide (2048 < l0_0.length) = true := decide_eq_true (by omega)
    clear c6
    have H' := Aside0.mk H
    clear H
    have hcz7_0 : w3.cell? ⟨gb101, 0, none⟩ = some (.slice A0_0 l0_0.length c0_0) := (blk_cell BK101.out 0).trans rfl
    have hcz7_1 : w3.cell? ⟨gb101, 1, none⟩ = some (.slice A0_1 l0_1.length c0_1) := (blk_cell BK101.out 1).trans rfl
    have hcz7_2 : w3.cell? ⟨gb101, 2, none⟩ = some (.int .i64 a0_2) := (blk_cell BK101.out 2).trans rfl
    have hcz7_3 : w3.cell? ⟨gb101, 3, none⟩ = some (.slice A0_3 l0_3.length c0_3) := (blk_cell BK101.out 3).trans rfl
    have hfz7_0 := blk_frozen BK101.out 0
    have hfz7_1 := blk_frozen BK101.out 1
    have hfz7_2 := blk_frozen BK101.out 2
    have hfz7_3 := blk_frozen BK101.out 3
    go_wp2
    go_meet
    case rel => exact ⟨_, (true), (by first | rfl | (simp; done) | (simp [*]; done)), H', ⟨by first | omega | exact Nat.le_refl _⟩, ⟨by (with_reducible repeat (first | refine blk_drewN ?_ _ | refine blk_drew ?_ | refine blk_alloc ?_ _)); exact BK101.out⟩, ⟨by repeat (first | (with_reducible first | exact HB.out | apply below_alloc | apply pw_below_drewN | apply below_drew1 | refine below_set ?_ GE101.out) | exact HB.out)⟩⟩
   ·rw [if_neg c6] at H
    have c6b0 : decide (2048 < (l0_0.length : Int)) = false := decide_eq_false c6
    have c6b1 : decide (2048 < l0_0.length) = false := decide_eq_false (by omega)
    clear c6
    by_cases c8 : (l0_1.length : Int) > 2048
    ·rw [if_pos c8] at H
     have c8b0 : decide (2048 < (l0_1.length : Int)) = true := decide_eq_true c8
     have c8b1 : decide (2048 < l0_1.length) = true := decide_eq_true (by omega)
     clear c8
     have H' := Aside0.mk H
     clear H
     have hcz9_0 : w3.cell? ⟨gb101, 0, none⟩ = some (.slice A0_0 l0_0.length c0_0) := (blk_cell BK101.out 0).trans rfl
     have hcz9_1 : w3.cell? ⟨gb101, 1, none⟩ = some (.slice A0_1 l0_1.length c0_1) := (blk_cell BK101.out 1).trans rfl
     have hcz9_2 : w3.cell? ⟨gb101, 2, none⟩ = some (.int .i64 a0_2) := (blk_cell BK101.out 2).trans rfl
     have hcz9_3 : w3.cell? ⟨gb101, 3, none⟩ = some (.slice A0_3 l0_3.length c0_3) := (blk_cell BK101.out 3).trans rfl
     have hfz9_0 := blk_frozen BK101.out 0
     have hfz9_1 := blk_frozen BK101.out 1
     have hfz9_2 := blk_frozen BK101.out 2
     have hfz9_3 := blk_frozen BK101.out 3
     go_wp2
     go_meet
     case rel => exact ⟨_, (true), (by first | rfl | (simp; done) | (simp [*]; done)), H', ⟨by first | omega | exact Nat.le_refl _⟩, ⟨by (with_reducible repeat (first | refine blk_drewN ?_ _ | refine blk_drew ?_ | refine blk_alloc ?_ _)); exact BK101.out⟩, ⟨by repeat (first | (with_reducible first | exact HB.out | apply below_alloc | apply pw_below_drewN | apply below_drew1 | refine below_set ?_ GE101.out) | exact HB.out)⟩⟩
    ·rw [if_neg c8] at H
     have c8b0 : decide (2048 < (l0_1.length : Int)) = false := decide_eq_false c8
     have c8b1 : decide (2048 < l0_1.length) = false := decide_eq_false (by omega)
     clear c8
     have H' := Aside0.mk H
     clear H
     have hcz10_0 : w3.cell? ⟨gb101, 0, none⟩ = some (.slice A0_0 l0_0.length c0_0) := (blk_cell BK101.out 0).trans rfl
     have hcz10_1 : w3.cell? ⟨gb101, 1, none⟩ = some (.slice A0_1 l0_1.length c0_1) := (blk_cell BK101.out 1).trans rfl
     have hcz10_2 : w3.cell? ⟨gb101, 2, none⟩ = some (.int .i64 a0_2) := (blk_cell BK101.out 2).trans rfl
     have hcz10_3 : w3.cell? ⟨gb101, 3, none⟩ = some (.slice A0_3 l0_3.length c0_3) := (blk_cell BK101.out 3).trans rfl
     have hfz10_0 := blk_frozen BK101.out 0
     have hfz10_1 := blk_frozen BK101.out 1
     have hfz10_2 := blk_frozen BK101.out 2
     have hfz10_3 := blk_frozen BK101.out 3
     go_wp2
     go_meet
     case rel => exact ⟨_, (decide ((l0_3.length : Int) > 8192)), (by first | rfl | (simp; done) | (simp [*]; done)), H', ⟨by first | omega | exact Nat.le_refl _⟩, ⟨by (with_reducible repeat (first | refine blk_drewN ?_ _ | refine blk_drew ?_ | refine blk_alloc ?_ _)); exact BK101.out⟩, ⟨by repeat (first | (with_reducible first | exact HB.out | apply below_alloc | apply pw_below_drewN | apply below_drew1 | refine below_set ?_ GE101.out) | exact HB.out)⟩⟩
 case rest =>
  clear HC2
  try clear p2
  try clear c4
  try clear c4b0
  try clear c4b1
  try clear c6
  try clear c6b0
  try clear c6b1
  try clear c8
  try clear c8b0
  try clear c8b1
  try clear hcz10_0
  try clear hcz10_1
  try clear hcz10_2
  try clear hcz10_3
  try clear hcz5_0
  try clear hcz5_1
  try clear hcz5_2
  try clear hcz5_3
  try clear hcz7_0
  try clear hcz7_1
  try clear hcz7_2
  try clear hcz7_3
  try clear hcz9_0
  try clear hcz9_1
  try clear hcz9_2
  try clear hcz9_3
  try clear hfz10_0
  try clear hfz10_1
  try clear hfz10_2
  try clear hfz10_3
  try clear hfz5_0
  try clear hfz5_1
  try clear hfz5_2
  try clear hfz5_3
  try clear hfz7_0
  try clear hfz7_1
  try clear hfz7_2
  try clear hfz7_3
  try clear hfz9_0
  try clear hfz9_1
  try clear hfz9_2
  try clear hfz9_3
  obtain ⟨kq, x30_1, rfl, HA, HJ1, BK101, HB⟩ := hcut
  cases kq with
  | zero => exact absurd HA.out (by simp [wickerref02_Check.j0])
  | succ kj1 =>
   have H := HA.out
   clear HA
   simp only [wickerref02_Check.j0] at H
   by_cases c11 : x30_1 = true
   ·subst c11
    have H1 : (some 11) = some r := by rw [if_pos rfl] at H; exact H
    clear H
    have H := H1
    clear H1
    obtain rfl := Option.some.inj H
    go_wp2
    go_ret
    exact ⟨by first | rfl | (simp [errW_none, errW_some] <;> rfl) | (simp [*, errW_none, errW_some] <;> rfl), by repeat (first | (with_reducible first | exact HB.out | apply below_alloc | apply pw_below_drewN | apply below_drew1 | refine below_set ?_ GE101.out) | exact HB.out)⟩
   ·replace c11 := Bool.eq_false_iff.mpr c11
    subst c11
    have H1 : (wickerref02_Check.l0 kj1 0 l0_0 l0_1 a0_2 l0_3) = some r := by rw [if_neg (show ¬ (false = true) by decide)] at H; exact H
    clear H
    have H := H1
    clear H1
    have H' := Aside0.mk H
    clear H
    go_wp2
    go_loopg [3] kj1 (fun kq v3 w' => ∃ (x3_2 : Int), v3 = .int .i64 x3_2 ∧ Aside0 (wickerref02_Check.l0 kq x3_2 l0_0 l0_1 a0_2 l0_3 = some r) ∧ Aside0 (kq ≤ kj1) ∧ Aside0 (w'.heap[gb101]? = some (.cells #[(.slice A0_0 l0_0.length c0_0), (.slice A0_1 l0_1.length c0_1), .int .i64 a0_2, (.slice A0_3 l0_3.length c0_3)] 63 (0, 0))) ∧ Aside0 (Below w.heap.size w w'))
    case atStart => exact ⟨(0), (by first | rfl | (simp; done) | (simp [*]; done)), H', ⟨Nat.le_refl _⟩, ⟨by (with_reducible repeat (first | refine blk_drewN ?_ _ | refine blk_drew ?_ | refine blk_alloc ?_ _)); exact BK101.out⟩, ⟨by repeat (first | (with_reducible first | exact HB.out | apply below_alloc | apply pw_below_drewN | apply below_drew1 | refine below_set ?_ GE101.out) | exact HB.out)⟩⟩
    case round =>
     clear H'
     try clear c1
     try clear p2
     try clear c4
     try clear c4b0
     try clear c4b1
     try clear c6
     try clear c6b0
     try clear c6b1
     try clear c8
     try clear c8b0
     try clear c8b1
     try clear c11
     try clear hcz10_0
     try clear hcz10_1
     try clear hcz10_2
     try clear hcz10_3
     try clear hcz5_0
     try clear hcz5_1
     try clear hcz5_2
     try clear hcz5_3
     try clear hcz7_0
     try clear hcz7_1
     try clear hcz7_2
     try clear hcz7_3
     try clear hcz9_0
     try clear hcz9_1
     try clear hcz9_2
     try clear hcz9_3
     try clear hfz10_0
     try clear hfz10_1
     try clear hfz10_2
     try clear hfz10_3
     try clear hfz5_0
     try clear hfz5_1
     try clear hfz5_2
     try clear hfz5_3
     try clear hfz7_0
     try clear hfz7_1
     try clear hfz7_2
     try clear hfz7_3
     try clear hfz9_0
     try clear hfz9_1
     try clear hfz9_2
     try clear hfz9_3
     try clear p2
     obtain ⟨x3_2, rfl, HA, HK2, BK101, HB⟩ := hrel
     cases gk with
     | zero => exact absurd HA.out (by simp [wickerref02_Check.l0])
     | succ k2 =>
      have H := HA.out
      clear HA
      simp only [wickerref02_Check.l0] at H
      by_cases c12 : x3_2 < (l0_0.length : Int)
      ·rw [if_pos c12] at H
       have c12b0 : decide (x3_2 < (l0_0.length : Int)) = true := decide_eq_true c12
       clear c12
       by_cases c13 : 0 ≤ x3_2
       ·rw [if_pos c13] at H
        have c13b0 : decide (0 ≤ x3_2) = true := decide_eq_true c13
        clear c13
        replace H := Option.bind_eq_some_iff.mp H
        obtain ⟨t103, A140, H⟩ := H
        replace H : (if t103 = true then (wickerref02_Check.l0 k2 (wrap64 (x3_2 + 1)) l0_0 l0_1 a0_2 l0_3) else (some 1)) = some r := H
        have A14 := Aside0.mk A140
        clear A140
        by_cases c15 : t103 = true
        ·subst c15
         have H1 : (wickerref02_Check.l0 k2 (wrap64 (x3_2 + 1)) l0_0 l0_1 a0_2 l0_3) = some r := by rw [if_pos rfl] at H; exact H
         clear H
         have H := H1
         clear H1
         have H' := Aside0.mk H
         clear H
         have hcz16_0 : wr.cell? ⟨gb101, 0, none⟩ = some (.slice A0_0 l0_0.length c0_0) := (blk_cell BK101.out 0).trans rfl
         have hcz16_1 : wr.cell? ⟨gb101, 1, none⟩ = some (.slice A0_1 l0_1.length c0_1) := (blk_cell BK101.out 1).trans rfl
         have hcz16_2 : wr.cell? ⟨gb101, 2, none⟩ = some (.int .i64 a0_2) := (blk_cell BK101.out 2).trans rfl
         have hcz16_3 : wr.cell? ⟨gb101, 3, none⟩ = some (.slice A0_3 l0_3.length c0_3) := (blk_cell BK101.out 3).trans rfl
         have hfz16_0 := blk_frozen BK101.out 0
         have hfz16_1 := blk_frozen BK101.out 1
         have hfz16_2 := blk_frozen BK101.out 2
         have hfz16_3 := blk_frozen BK101.out 3
         have p102 : 0 ≤ (x3_2 : Int) := of_decide_eq_true (by first | (with_reducible assumption) | assumption)
         have q102 : x3_2 < (l0_0.length : Int) := of_decide_eq_true (by first | (with_reducible assumption) | assumption)
         obtain ⟨ad102, e102, hx102_0⟩ := Kd.at_string HR0_0.out x3_2 p102 q102
         cases e102
         replace hx102_0 := (HB.out.cell (World.block_lt_of_cell? w _ hx102_0)).trans hx102_0
         replace p102 := eq_true p102
         replace q102 := eq_true q102
         go_wp2_with (first | ((with_reducible refine gate_callee (f := 133) rfl ?_); refine goesL_ (some 43) rfl rfl Tryd.func133 (by kernel_rfl) rfl #[.string (rdOf ByteArray.empty l0_0 x3_2)] rfl (by (try simp only [List.map_toArray, List.map_cons, List.map_nil]); first | done | rfl | (simp only [List.length_drop, List.length_take]; rfl)) ?_; (with_reducible refine (wickerref01_Name.calls k2 (rdOf ByteArray.empty l0_0 x3_2) true _ A14.out).mono ?_); rintro e w' ⟨rfl, ⟨nd, rfl⟩⟩; refine ⟨_, rfl, ?_⟩))
         go_roundg k2
         case measure => have := HJ1.out; have := HK2.out; omega
         case rel => exact ⟨(wrap64 (x3_2 + 1)), (by first | rfl | (simp; done) | (simp [*]; done)), H', ⟨by have := HJ1.out; have := HK2.out; omega⟩, ⟨by (with_reducible repeat (first | refine blk_drewN ?_ _ | refine blk_drew ?_ | refine blk_alloc ?_ _)); exact BK101.out⟩, ⟨by repeat (first | (with_reducible first | exact HB.out | apply below_alloc | apply pw_below_drewN | apply below_drew1 | refine below_set ?_ GE101.out) | exact HB.out)⟩⟩
        ·replace c15 := Bool.eq_false_iff.mpr c15
         subst c15
         have H1 : (some 1) = some r := by rw [if_neg (show ¬ (false = true) by decide)] at H; exact H
         clear H
         have H := H1
         clear H1
         obtain rfl := Option.some.inj H
         have hcz17_0 : wr.cell? ⟨gb101, 0, none⟩ = some (.slice A0_0 l0_0.length c0_0) := (blk_cell BK101.out 0).trans rfl
         have hcz17_1 : wr.cell? ⟨gb101, 1, none⟩ = some (.slice A0_1 l0_1.length c0_1) := (blk_cell BK101.out 1).trans rfl
         have hcz17_2 : wr.cell? ⟨gb101, 2, none⟩ = some (.int .i64 a0_2) := (blk_cell BK101.out 2).trans rfl
         have hcz17_3 : wr.cell? ⟨gb101, 3, none⟩ = some (.slice A0_3 l0_3.length c0_3) := (blk_cell BK101.out 3).trans rfl
         have hfz17_0 := blk_frozen BK101.out 0
         have hfz17_1 := blk_frozen BK101.out 1
         have hfz17_2 := blk_frozen BK101.out 2
         have hfz17_3 := blk_frozen BK101.out 3
         have p102 : 0 ≤ (x3_2 : Int) := of_decide_eq_true (by first | (with_reducible assumption) | assumption)
         have q102 : x3_2 < (l0_0.length : Int) := of_decide_eq_true (by first | (with_reducible assumption) | assumption)
         obtain ⟨ad102, e102, hx102_0⟩ := Kd.at_string HR0_0.out x3_2 p102 q102
         cases e102
         replace hx102_0 := (HB.out.cell (World.block_lt_of_cell? w _ hx102_0)).trans hx102_0
         replace p102 := eq_true p102
         replace q102 := eq_true q102
         go_wp2_with (first | ((with_reducible refine gate_callee (f := 133) rfl ?_); refine goesL_ (some 43) rfl rfl Tryd.func133 (by kernel_rfl) rfl #[.string (rdOf ByteArray.empty l0_0 x3_2)] rfl (by (try simp only [List.map_toArray, List.map_cons, List.map_nil]); first | done | rfl | (simp only [List.length_drop, List.length_take]; rfl)) ?_; (with_reducible refine (wickerref01_Name.calls k2 (rdOf ByteArray.empty l0_0 x3_2) false _ A14.out).mono ?_); rintro e w' ⟨rfl, ⟨nd, rfl⟩⟩; refine ⟨_, rfl, ?_⟩))
         go_ret
         exact ⟨by first | rfl | (simp [errW_none, errW_some] <;> rfl) | (simp [*, errW_none, errW_some] <;> rfl), by repeat (first | (with_reducible first | exact HB.out | apply below_alloc | apply pw_below_drewN | apply below_drew1 | refine below_set ?_ GE101.out) | exact HB.out)⟩
       ·rw [if_neg c13] at H
        exact absurd H (by simp)
      ·rw [if_neg c12] at H
       have c12b0 : decide (x3_2 < (l0_0.length : Int)) = false := decide_eq_false c12
       clear c12
       have H' := Aside0.mk H
       clear H
       have hcz18_0 : wr.cell? ⟨gb101, 0, none⟩ = some (.slice A0_0 l0_0.length c0_0) := (blk_cell BK101.out 0).trans rfl
       have hcz18_1 : wr.cell? ⟨gb101, 1, none⟩ = some (.slice A0_1 l0_1.length c0_1) := (blk_cell BK101.out 1).trans rfl
       have hcz18_2 : wr.cell? ⟨gb101, 2, none⟩ = some (.int .i64 a0_2) := (blk_cell BK101.out 2).trans rfl
       have hcz18_3 : wr.cell? ⟨gb101, 3, none⟩ = some (.slice A0_3 l0_3.length c0_3) := (blk_cell BK101.out 3).trans rfl
       have hfz18_0 := blk_frozen BK101.out 0
       have hfz18_1 := blk_frozen BK101.out 1
       have hfz18_2 := blk_frozen BK101.out 2
       have hfz18_3 := blk_frozen BK101.out 3
       go_wp2
       go_loopg [4] k2 (fun kq v4 w' => ∃ (x4_3 : Int), v4 = .int .i64 x4_3 ∧ Aside0 (wickerref02_Check.l1 kq x4_3 l0_0 l0_1 a0_2 l0_3 = some r) ∧ Aside0 (kq ≤ k2) ∧ Aside0 (w'.heap[gb101]? = some (.cells #[(.slice A0_0 l0_0.length c0_0), (.slice A0_1 l0_1.length c0_1), .int .i64 a0_2, (.slice A0_3 l0_3.length c0_3)] 63 (0, 0))) ∧ Aside0 (Below w.heap.size w w'))
       case atStart => exact ⟨(0), (by first | rfl | (simp; done) | (simp [*]; done)), H', ⟨Nat.le_refl _⟩, ⟨by (with_reducible repeat (first | refine blk_drewN ?_ _ | refine blk_drew ?_ | refine blk_alloc ?_ _)); exact BK101.out⟩, ⟨by repeat (first | (with_reducible first | exact HB.out | apply below_alloc | apply pw_below_drewN | apply below_drew1 | refine below_set ?_ GE101.out) | exact HB.out)⟩⟩
       case round =>
        clear H'
        try clear c1
        try clear p1
        try clear q1
        try clear hx1
        try clear p2
        try clear c4
        try clear c4b0
        try clear c4b1
        try clear c6
        try clear c6b0
        try clear c6b1
        try clear p6
        try clear c8
        try clear c8b0
        try clear c8b1
        try clear p10
        try clear q10
        try clear hx10
        try clear c11
        try clear c12
        try clear c12b0
        try clear c13
        try clear c13b0
        try clear c15
        try clear hcz10_0
        try clear hcz10_1
        try clear hcz10_2
        try clear hcz10_3
        try clear hcz16_0
        try clear hcz16_1
        try clear hcz16_2
        try clear hcz16_3
        try clear hcz17_0
        try clear hcz17_1
        try clear hcz17_2
        try clear hcz17_3
        try clear hcz18_0
        try clear hcz18_1
        try clear hcz18_2
        try clear hcz18_3
        try clear hcz5_0
        try clear hcz5_1
        try clear hcz5_2
        try clear hcz5_3
        try clear hcz7_0
        try clear hcz7_1
        try clear hcz7_2
        try clear hcz7_3
        try clear hcz9_0
        try clear hcz9_1
        try clear hcz9_2
        try clear hcz9_3
        try clear hfz10_0
        try clear hfz10_1
        try clear hfz10_2
        try clear hfz10_3
        try clear hfz16_0
        try clear hfz16_1
        try clear hfz16_2
        try clear hfz16_3
        try clear hfz17_0
        try clear hfz17_1
        try clear hfz17_2
        try clear hfz17_3
        try clear hfz18_0
        try clear hfz18_1
        try clear hfz18_2
        try clear hfz18_3
        try clear hfz5_0
        try clear hfz5_1
        try clear hfz5_2
        try clear hfz5_3
        try clear hfz7_0
        try clear hfz7_1
        try clear hfz7_2
        try clear hfz7_3
        try clear hfz9_0
        try clear hfz9_1
        try clear hfz9_2
        try clear hfz9_3
        try clear hx102_0
        try clear p102
        try clear p2
        try clear q102
        obtain ⟨x4_3, rfl, HA, HK3, BK101, HB⟩ := hrel
        cases gk with
        | zero => exact absurd HA.out (by simp [wickerref02_Check.l1])
        | succ k3 =>
         have H := HA.out
         clear HA
         simp only [wickerref02_Check.l1] at H
         by_cases c19 : x4_3 < (l0_1.length : Int)
         ·rw [if_pos c19] at H
          have c19b0 : decide (x4_3 < (l0_1.length : Int)) = true := decide_eq_true c19
          clear c19
          by_cases c20 : 0 ≤ x4_3
          ·rw [if_pos c20] at H
           have c20b0 : decide (0 ≤ x4_3) = true := decide_eq_true c20
           clear c20
           replace H := Option.bind_eq_some_iff.mp H
           obtain ⟨t105, A210, H⟩ := H
           replace H : (if t105 = true then (wickerref02_Check.l1 k3 (wrap64 (x4_3 + 1)) l0_0 l0_1 a0_2 l0_3) else (some 1)) = some r := H
           have A21 := Aside0.mk A210
           clear A210
           by_cases c22 : t105 = true
           ·subst c22
            have H1 : (wickerref02_Check.l1 k3 (wrap64 (x4_3 + 1)) l0_0 l0_1 a0_2 l0_3) = some r := by rw [if_pos rfl] at H; exact H
            clear H
            have H := H1
            clear H1
            have H' := Aside0.mk H
            clear H
            have hcz23_0 : wr.cell? ⟨gb101, 0, none⟩ = some (.slice A0_0 l0_0.length c0_0) := (blk_cell BK101.out 0).trans rfl
            have hcz23_1 : wr.cell? ⟨gb101, 1, none⟩ = some (.slice A0_1 l0_1.length c0_1) := (blk_cell BK101.out 1).trans rfl
            have hcz23_2 : wr.cell? ⟨gb101, 2, none⟩ = some (.int .i64 a0_2) := (blk_cell BK101.out 2).trans rfl
            have hcz23_3 : wr.cell? ⟨gb101, 3, none⟩ = some (.slice A0_3 l0_3.length c0_3) := (blk_cell BK101.out 3).trans rfl
            have hfz23_0 := blk_frozen BK101.out 0
            have hfz23_1 := blk_frozen BK101.out 1
            have hfz23_2 := blk_frozen BK101.out 2
            have hfz23_3 := blk_frozen BK101.out 3
            have p104 : 0 ≤ (x4_3 : Int) := of_decide_eq_true (by first | (with_reducible assumption) | assumption)
            have q104 : x4_3 < (l0_1.length : Int) := of_decide_eq_true (by first | (with_reducible assumption) | assumption)
            obtain ⟨ad104, e104, hx104_0⟩ := Kd.at_string HR0_1.out x4_3 p104 q104
            cases e104
            replace hx104_0 := (HB.out.cell (World.block_lt_of_cell? w _ hx104_0)).trans hx104_0
            replace p104 := eq_true p104
            replace q104 := eq_true q104
            go_wp2_with (first | ((with_reducible refine gate_callee (f := 134) rfl ?_); refine goesL_ (some 57) rfl rfl Tryd.func134 (by kernel_rfl) rfl #[.string (rdOf ByteArray.empty l0_1 x4_3)] rfl (by (try simp only [List.map_toArray, List.map_cons, List.map_nil]); first | done | rfl | (simp only [List.length_drop, List.length_take]; rfl)) ?_; (with_reducible refine (wickerref01_Mark.calls (rdOf ByteArray.empty l0_1 x4_3) true _ A21.out).mono ?_); rintro e w' ⟨rfl, ⟨nd, rfl⟩⟩; refine ⟨_, rfl, ?_⟩))
            go_roundg k3
            case measure => have := HJ1.out; have := HK2.out; have := HK3.out; omega
            case rel => exact ⟨(wrap64 (x4_3 + 1)), (by first | rfl | (simp; done) | (simp [*]; done)), H', ⟨by have := HJ1.out; have := HK2.out; have := HK3.out; omega⟩, ⟨by (with_reducible repeat (first | refine blk_drewN ?_ _ | refine blk_drew ?_ | refine blk_alloc ?_ _)); exact BK101.out⟩, ⟨by repeat (first | (with_reducible first | exact HB.out | apply below_alloc | apply pw_below_drewN | apply below_drew1 | refine below_set ?_ GE101.out) | exact HB.out)⟩⟩
           ·replace c22 := Bool.eq_false_iff.mpr c22
            subst c22
            have H1 : (some 1) = some r := by rw [if_neg (show ¬ (false = true) by decide)] at H; exact H
            clear H
            have H := H1
            clear H1
            obtain rfl := Option.some.inj H
            have hcz24_0 : wr.cell? ⟨gb101, 0, none⟩ = some (.slice A0_0 l0_0.length c0_0) := (blk_cell BK101.out 0).trans rfl
            have hcz24_1 : wr.cell? ⟨gb101, 1, none⟩ = some (.slice A0_1 l0_1.length c0_1) := (blk_cell BK101.out 1).trans rfl
            have hcz24_2 : wr.cell? ⟨gb101, 2, none⟩ = some (.int .i64 a0_2) := (blk_cell BK101.out 2).trans rfl
            have hcz24_3 : wr.cell? ⟨gb101, 3, none⟩ = some (.slice A0_3 l0_3.length c0_3) := (blk_cell BK101.out 3).trans rfl
            have hfz24_0 := blk_frozen BK101.out 0
            have hfz24_1 := blk_frozen BK101.out 1
            have hfz24_2 := blk_frozen BK101.out 2
            have hfz24_3 := blk_frozen BK101.out 3
            have p104 : 0 ≤ (x4_3 : Int) := of_decide_eq_true (by first | (with_reducible assumption) | assumption)
            have q104 : x4_3 < (l0_1.length : Int) := of_decide_eq_true (by first | (with_reducible assumption) | assumption)
            obtain ⟨ad104, e104, hx104_0⟩ := Kd.at_string HR0_1.out x4_3 p104 q104
            cases e104
            replace hx104_0 := (HB.out.cell (World.block_lt_of_cell? w _ hx104_0)).trans hx104_0
            replace p104 := eq_true p104
            replace q104 := eq_true q104
            go_wp2_with (first | ((with_reducible refine gate_callee (f := 134) rfl ?_); refine goesL_ (some 57) rfl rfl Tryd.func134 (by kernel_rfl) rfl #[.string (rdOf ByteArray.empty l0_1 x4_3)] rfl (by (try simp only [List.map_toArray, List.map_cons, List.map_nil]); first | done | rfl | (simp only [List.length_drop, List.length_take]; rfl)) ?_; (with_reducible refine (wickerref01_Mark.calls (rdOf ByteArray.empty l0_1 x4_3) false _ A21.out).mono ?_); rintro e w' ⟨rfl, ⟨nd, rfl⟩⟩; refine ⟨_, rfl, ?_⟩))
            go_ret
            exact ⟨by first | rfl | (simp [errW_none, errW_some] <;> rfl) | (simp [*, errW_none, errW_some] <;> rfl), by repeat (first | (with_reducible first | exact HB.out | apply below_alloc | apply pw_below_drewN | apply below_drew1 | refine below_set ?_ GE101.out) | exact HB.out)⟩
          ·rw [if_neg c20] at H
           exact absurd H (by simp)
         ·rw [if_neg c19] at H
          have c19b0 : decide (x4_3 < (l0_1.length : Int)) = false := decide_eq_false c19
          clear c19
          have HC25 := Aside0.mk H
          clear H
          have hcz26_0 : wr.cell? ⟨gb101, 0, none⟩ = some (.slice A0_0 l0_0.length c0_0) := (blk_cell BK101.out 0).trans rfl
          have hcz26_1 : wr.cell? ⟨gb101, 1, none⟩ = some (.slice A0_1 l0_1.length c0_1) := (blk_cell BK101.out 1).trans rfl
          have hcz26_2 : wr.cell? ⟨gb101, 2, none⟩ = some (.int .i64 a0_2) := (blk_cell BK101.out 2).trans rfl
          have hcz26_3 : wr.cell? ⟨gb101, 3, none⟩ = some (.slice A0_3 l0_3.length c0_3) := (blk_cell BK101.out 3).trans rfl
          have hfz26_0 := blk_frozen BK101.out 0
          have hfz26_1 := blk_frozen BK101.out 1
          have hfz26_2 := blk_frozen BK101.out 2
          have hfz26_3 := blk_frozen BK101.out 3
          go_upto_region 13 with (fail)
          go_cut [66] (fun v66 wc => ∃ (kq : Nat) (x66_24 : Bool), v66 = .bool x66_24 ∧ Aside0 (wickerref02_Check.j3 kq x66_24 l0_0 l0_1 a0_2 l0_3 = some r) ∧ Aside0 (kq ≤ k3) ∧ Aside0 (wc.heap[gb101]? = some (.cells #[(.slice A0_0 l0_0.length c0_0), (.slice A0_1 l0_1.length c0_1), .int .i64 a0_2, (.slice A0_3 l0_3.length c0_3)] 63 (0, 0))) ∧ Aside0 (Below w.heap.size w wc))
          case first =>
           have H := HC25.out
           clear HC25
           replace H := Option.bind_eq_some_iff.mp H
           obtain ⟨t106, A270, H⟩ := H
           replace H : (if t106 = true then (wickerref02_Check.j3 k3 true l0_0 l0_1 a0_2 l0_3) else ((wickerref02_twice.f k3 l0_1).bind fun t107 => (wickerref02_Check.j3 k3 t107 l0_0 l0_1 a0_2 l0_3))) = some r := H
           have A27 := Aside0.mk A270
           clear A270
           by_cases c28 : t106 = true
           ·subst c28
            have H1 : (wickerref02_Check.j3 k3 true l0_0 l0_1 a0_2 l0_3) = some r := by rw [if_pos rfl] at H; exact H
            clear H
            have H := H1
            clear H1
            have H' := Aside0.mk H
            clear H
            have hcz29_0 : wr.cell? ⟨gb101, 0, none⟩ = some (.slice A0_0 l0_0.length c0_0) := (blk_cell BK101.out 0).trans rfl
            have hcz29_1 : wr.cell? ⟨gb101, 1, none⟩ = some (.slice A0_1 l0_1.length c0_1) := (blk_cell BK101.out 1).trans rfl
            have hcz29_2 : wr.cell? ⟨gb101, 2, none⟩ = some (.int .i64 a0_2) := (blk_cell BK101.out 2).trans rfl
            have hcz29_3 : wr.cell? ⟨gb101, 3, none⟩ = some (.slice A0_3 l0_3.length c0_3) := (blk_cell BK101.out 3).trans rfl
            have hfz29_0 := blk_frozen BK101.out 0
            have hfz29_1 := blk_frozen BK101.out 1
            have hfz29_2 := blk_frozen BK101.out 2
            have hfz29_3 := blk_frozen BK101.out 3
            go_wp2_with (first | ((with_reducible refine gate_callee (f := 135) rfl ?_); refine goesL_ (some 61) rfl rfl Tryd.func135 (by kernel_rfl) rfl #[.slice A0_0 l0_0.length c0_0] rfl (by (try simp only [List.map_toArray, List.map_cons, List.map_nil]); first | done | rfl | (simp only [List.length_drop, List.length_take]; rfl)) ?_; (with_reducible refine (wickerref02_twice.calls k3 _ _ l0_0 true _ ?side1 ?side2 A27.out).mono ?_); (case side1 => repeat (first | exact (Kd.C_below HR0_0.out HB.out) | (with_reducible refine Kd.C_alloc ?_ _) | (with_reducible refine Kd.C_drewN ?_ _) | (with_reducible refine Kd.C_drew ?_))); (case side2 => exact HC0_0.out); rintro e w' ⟨rfl, ⟨nd, rfl⟩⟩; refine ⟨_, rfl, ?_⟩))
            go_meet
            case rel => exact ⟨_, (true), (by first | rfl | (simp; done) | (simp [*]; done)), H', ⟨by have := HJ1.out; have := HK2.out; have := HK3.out; first | omega | exact Nat.le_refl _⟩, ⟨by (with_reducible repeat (first | refine blk_drewN ?_ _ | refine blk_drew ?_ | refine blk_alloc ?_ _)); exact BK101.out⟩, ⟨by repeat (first | (with_reducible first | exact HB.out | apply below_alloc | apply pw_below_drewN | apply below_drew1 | refine below_set ?_ GE101.out) | exact HB.out)⟩⟩
           ·replace c28 := Bool.eq_false_iff.mpr c28
            subst c28
            have H1 : ((wickerref02_twice.f k3 l0_1).bind fun t107 => (wickerref02_Check.j3 k3 t107 l0_0 l0_1 a0_2 l0_3)) = some r := by rw [if_neg (show ¬ (false = true) by decide)] at H; exact H
            clear H
            have H := H1
            clear H1
            replace H := Option.bind_eq_some_iff.mp H
            obtain ⟨t107, A300, H⟩ := H
            replace H : (wickerref02_Check.j3 k3 t107 l0_0 l0_1 a0_2 l0_3) = some r := H
            have A30 := Aside0.mk A300
            clear A300
            have H' := Aside0.mk H
            clear H
            have hcz31_0 : wr.cell? ⟨gb101, 0, none⟩ = some (.slice A0_0 l0_0.length c0_0) := (blk_cell BK101.out 0).trans rfl
            have hcz31_1 : wr.cell? ⟨gb101, 1, none⟩ = some (.slice A0_1 l0_1.length c0_1) := (blk_cell BK101.out 1).trans rfl
            have hcz31_2 : wr.cell? ⟨gb101, 2, none⟩ = some (.int .i64 a0_2) := (blk_cell BK101.out 2).trans rfl
            have hcz31_3 : wr.cell? ⟨gb101, 3, none⟩ = some (.slice A0_3 l0_3.length c0_3) := (blk_cell BK101.out 3).trans rfl
            have hfz31_0 := blk_frozen BK101.out 0
            have hfz31_1 := blk_frozen BK101.out 1
            have hfz31_2 := blk_frozen BK101.out 2
            have hfz31_3 := blk_frozen BK101.out 3
            go_wp2_with (first | ((with_reducible refine gate_callee (f := 135) rfl ?_); refine goesL_ (some 61) rfl rfl Tryd.func135 (by kernel_rfl) rfl #[.slice A0_0 l0_0.length c0_0] rfl (by (try simp only [List.map_toArray, List.map_cons, List.map_nil]); first | done | rfl | (simp only [List.length_drop, List.length_take]; rfl)) ?_; (with_reducible refine (wickerref02_twice.calls k3 _ _ l0_0 false _ ?side1 ?side2 A27.out).mono ?_); (case side1 => repeat (first | exact (Kd.C_below HR0_0.out HB.out) | (with_reducible refine Kd.C_alloc ?_ _) | (with_reducible refine Kd.C_drewN ?_ _) | (with_reducible refine Kd.C_drew ?_))); (case side2 => exact HC0_0.out); rintro e w' ⟨rfl, ⟨nd, rfl⟩⟩; refine ⟨_, rfl, ?_⟩) | (go_at_call 135; (with_reducible refine (wickerref02_twice.calls k3 _ _ l0_1 t107 _ ?side1 ?side2 A30.out).mono ?_); (case side1 => repeat (first | exact (Kd.C_below HR0_1.out (by repeat (first | (with_reducible first | exact HB.out | apply below_alloc | apply pw_below_drewN | apply below_drew1 | refine below_set ?_ GE101.out) | exact HB.out))) | (with_reducible refine Kd.C_alloc ?_ _) | (with_reducible refine Kd.C_drewN ?_ _) | (with_reducible refine Kd.C_drew ?_))); (case side2 => exact HC0_1.out); rintro e w' ⟨rfl, ⟨nd, rfl⟩⟩))
            go_meet
            case rel => exact ⟨_, (t107), (by first | rfl | (simp; done) | (simp [*]; done)), H', ⟨by have := HJ1.out; have := HK2.out; have := HK3.out; first | omega | exact Nat.le_refl _⟩, ⟨by (with_reducible repeat (first | refine blk_drewN ?_ _ | refine blk_drew ?_ | refine blk_alloc ?_ _)); exact BK101.out⟩, ⟨by repeat (first | (with_reducible first | exact HB.out | apply below_alloc | apply pw_below_drewN | apply below_drew1 | refine below_set ?_ GE101.out) | exact HB.out)⟩⟩
          case rest =>
           clear HC25
           try clear c1
           try clear p1
           try clear q1
           try clear hx1
           try clear c2
           try clear p2
           try clear c4
           try clear c4b0
           try clear c4b1
           try clear c6
           try clear c6b0
           try clear c6b1
           try clear p6
           try clear c8
           try clear c8b0
           try clear c8b1
           try clear p10
           try clear q10
           try clear hx10
           try clear c11
           try clear c12
           try clear c12b0
           try clear c13
           try clear c13b0
           try clear c15
           try clear c19
           try clear c19b0
           try clear c20
           try clear c20b0
           try clear c22
           try clear c28
           try clear hcz10_0
           try clear hcz10_1
           try clear hcz10_2
           try clear hcz10_3
           try clear hcz16_0
           try clear hcz16_1
           try clear hcz16_2
           try clear hcz16_3
           try clear hcz17_0
           try clear hcz17_1
           try clear hcz17_2
           try clear hcz17_3
           try clear hcz18_0
           try clear hcz18_1
           try clear hcz18_2
           try clear hcz18_3
           try clear hcz23_0
           try clear hcz23_1
           try clear hcz23_2
           try clear hcz23_3
           try clear hcz24_0
           try clear hcz24_1
           try clear hcz24_2
           try clear hcz24_3
           try clear hcz26_0
           try clear hcz26_1
           try clear hcz26_2
           try clear hcz26_3
           try clear hcz29_0
           try clear hcz29_1
           try clear hcz29_2
           try clear hcz29_3
           try clear hcz31_0
           try clear hcz31_1
           try clear hcz31_2
           try clear hcz31_3
           try clear hcz5_0
           try clear hcz5_1
           try clear hcz5_2
           try clear hcz5_3
           try clear hcz7_0
           try clear hcz7_1
           try clear hcz7_2
           try clear hcz7_3
           try clear hcz9_0
           try clear hcz9_1
           try clear hcz9_2
           try clear hcz9_3
           try clear hfz10_0
           try clear hfz10_1
           try clear hfz10_2
           try clear hfz10_3
           try clear hfz16_0
           try clear hfz16_1
           try clear hfz16_2
           try clear hfz16_3
           try clear hfz17_0
           try clear hfz17_1
           try clear hfz17_2
           try clear hfz17_3
           try clear hfz18_0
           try clear hfz18_1
           try clear hfz18_2
           try clear hfz18_3
           try clear hfz23_0
           try clear hfz23_1
           try clear hfz23_2
           try clear hfz23_3
           try clear hfz24_0
           try clear hfz24_1
           try clear hfz24_2
           try clear hfz24_3
           try clear hfz26_0
           try clear hfz26_1
           try clear hfz26_2
           try clear hfz26_3
           try clear hfz29_0
           try clear hfz29_1
           try clear hfz29_2
           try clear hfz29_3
           try clear hfz31_0
           try clear hfz31_1
           try clear hfz31_2
           try clear hfz31_3
           try clear hfz5_0
           try clear hfz5_1
           try clear hfz5_2
           try clear hfz5_3
           try clear hfz7_0
           try clear hfz7_1
           try clear hfz7_2
           try clear hfz7_3
           try clear hfz9_0
           try clear hfz9_1
           try clear hfz9_2
           try clear hfz9_3
           try clear hx102_0
           try clear hx104_0
           try clear p1
           try clear p10
           try clear p102
           try clear p104
           try clear p2
           try clear p6
           try clear q1
           try clear q10
           try clear q102
           try clear q104
           obtain ⟨kq, x66_24, rfl, HA, HJ24, BK101, HB⟩ := hcut
           cases kq with
           | zero => exact absurd HA.out (by simp [wickerref02_Check.j3])
           | succ kj24 =>
            have H := HA.out
            clear HA
            simp only [wickerref02_Check.j3] at H
            by_cases c32 : x66_24 = true
            ·subst c32
             have H1 : (some 2) = some r := by rw [if_pos rfl] at H; exact H
             clear H
             have H := H1
             clear H1
             obtain rfl := Option.some.inj H
             go_wp2
             go_ret
             exact ⟨by first | rfl | (simp [errW_none, errW_some] <;> rfl) | (simp [*, errW_none, errW_some] <;> rfl), by repeat (first | (with_reducible first | exact HB.out | apply below_alloc | apply pw_below_drewN | apply below_drew1 | refine below_set ?_ GE101.out) | exact HB.out)⟩
            ·replace c32 := Bool.eq_false_iff.mpr c32
             subst c32
             have H1 : (if a0_2 < 0 then (wickerref02_Check.j4 kj24 true l0_0 l0_1 a0_2 l0_3) else (wickerref02_Check.j4 kj24 (decide (a0_2 ≥ (l0_0.length : Int))) l0_0 l0_1 a0_2 l0_3)) = some r := by rw [if_neg (show ¬ (false = true) by decide)] at H; exact H
             clear H
             have H := H1
             clear H1
             have HC33 := Aside0.mk H
             clear H
             go_upto_region 15 with (fail)
             go_cut [77] (fun v77 wc => ∃ (kq : Nat) (x77_32 : Bool), v77 = .bool x77_32 ∧ Aside0 (wickerref02_Check.j4 kq x77_32 l0_0 l0_1 a0_2 l0_3 = some r) ∧ Aside0 (kq ≤ kj24) ∧ Aside0 (wc.heap[gb101]? = some (.cells #[(.slice A0_0 l0_0.length c0_0), (.slice A0_1 l0_1.length c0_1), .int .i64 a0_2, (.slice A0_3 l0_3.length c0_3)] 63 (0, 0))) ∧ Aside0 (Below w.heap.size w wc))
             case first =>
              have H := HC33.out
              clear HC33
              by_cases c34 : a0_2 < 0
              ·rw [if_pos c34] at H
               have c34b0 : decide (a0_2 < 0) = true := decide_eq_true c34
               clear c34
               (first | rw [c34b0] | (simp only [i64_w, i32_w]; rw [c34b0]) | skip)
               have H' := Aside0.mk H
               clear H
               have hcz35_0 : wc.cell? ⟨gb101, 0, none⟩ = some (.slice A0_0 l0_0.length c0_0) := (blk_cell BK101.out 0).trans rfl
               have hcz35_1 : wc.cell? ⟨gb101, 1, none⟩ = some (.slice A0_1 l0_1.length c0_1) := (blk_cell BK101.out 1).trans rfl
               have hcz35_2 : wc.cell? ⟨gb101, 2, none⟩ = some (.int .i64 a0_2) := (blk_cell BK101.out 2).trans rfl
               have hcz35_3 : wc.cell? ⟨gb101, 3, none⟩ = some (.slice A0_3 l0_3.length c0_3) := (blk_cell BK101.out 3).trans rfl
               have hfz35_0 := blk_frozen BK101.out 0
               have hfz35_1 := blk_frozen BK101.out 1
               have hfz35_2 := blk_frozen BK101.out 2
               have hfz35_3 := blk_frozen BK101.out 3
               go_wp2
               go_meet
               case rel => exact ⟨_, (true), (by first | rfl | (simp; done) | (simp [*]; done)), H', ⟨by have := HJ1.out; have := HK2.out; have := HK3.out; have := HJ24.out; first | omega | exact Nat.le_refl _⟩, ⟨by (with_reducible repeat (first | refine blk_drewN ?_ _ | refine blk_drew ?_ | refine blk_alloc ?_ _)); exact BK101.out⟩, ⟨by repeat (first | (with_reducible first | exact HB.out | apply below_alloc | apply pw_below_drewN | apply below_drew1 | refine below_set ?_ GE101.out) | exact HB.out)⟩⟩
              ·rw [if_neg c34] at H
               have c34b0 : decide (a0_2 < 0) = false := decide_eq_false c34
               clear c34
               (first | rw [c34b0] | (simp only [i64_w, i32_w]; rw [c34b0]) | skip)
               have H' := Aside0.mk H
               clear H
               have hcz36_0 : wc.cell? ⟨gb101, 0, none⟩ = some (.slice A0_0 l0_0.length c0_0) := (blk_cell BK101.out 0).trans rfl
               have hcz36_1 : wc.cell? ⟨gb101, 1, none⟩ = some (.slice A0_1 l0_1.length c0_1) := (blk_cell BK101.out 1).trans rfl
               have hcz36_2 : wc.cell? ⟨gb101, 2, none⟩ = some (.int .i64 a0_2) := (blk_cell BK101.out 2).trans rfl
               have hcz36_3 : wc.cell? ⟨gb101, 3, none⟩ = some (.slice A0_3 l0_3.length c0_3) := (blk_cell BK101.out 3).trans rfl
               have hfz36_0 := blk_frozen BK101.out 0
               have hfz36_1 := blk_frozen BK101.out 1
               have hfz36_2 := blk_frozen BK101.out 2
               have hfz36_3 := blk_frozen BK101.out 3
               go_wp2
               go_meet
               case rel => exact ⟨_, (decide (a0_2 ≥ (l0_0.length : Int))), (by first | rfl | (simp; done) | (simp [*]; done)), H', ⟨by have := HJ1.out; have := HK2.out; have := HK3.out; have := HJ24.out; first | omega | exact Nat.le_refl _⟩, ⟨by (with_reducible repeat (first | refine blk_drewN ?_ _ | refine blk_drew ?_ | refine blk_alloc ?_ _)); exact BK101.out⟩, ⟨by repeat (first | (with_reducible first | exact HB.out | apply below_alloc | apply pw_below_drewN | apply below_drew1 | refine below_set ?_ GE101.out) | exact HB.out)⟩⟩
             case rest =>
              clear HC33
              try clear c1
              try clear p1
              try clear q1
              try clear hx1
              try clear c2
              try clear p2
              try clear c3
              try clear c4
              try clear c4b0
              try clear c4b1
              try clear c6
              try clear c6b0
              try clear c6b1
              try clear p6
              try clear c8
              try clear c8b0
              try clear c8b1
              try clear p10
              try clear q10
              try clear hx10
              try clear c11
              try clear c12
              try clear c12b0
              try clear c13
              try clear c13b0
              try clear c15
              try clear c19
              try clear c19b0
              try clear c20
              try clear c20b0
              try clear c22
              try clear c28
              try clear c32
              try clear c34
              try clear c34b0
              try clear hcz10_0
              try clear hcz10_1
              try clear hcz10_2
              try clear hcz10_3
              try clear hcz16_0
              try clear hcz16_1
              try clear hcz16_2
              try clear hcz16_3
              try clear hcz17_0
              try clear hcz17_1
              try clear hcz17_2
              try clear hcz17_3
              try clear hcz18_0
              try clear hcz18_1
              try clear hcz18_2
              try clear hcz18_3
              try clear hcz23_0
              try clear hcz23_1
              try clear hcz23_2
              try clear hcz23_3
              try clear hcz24_0
              try clear hcz24_1
              try clear hcz24_2
              try clear hcz24_3
              try clear hcz26_0
              try clear hcz26_1
              try clear hcz26_2
              try clear hcz26_3
              try clear hcz29_0
              try clear hcz29_1
              try clear hcz29_2
              try clear hcz29_3
              try clear hcz31_0
              try clear hcz31_1
              try clear hcz31_2
              try clear hcz31_3
              try clear hcz35_0
              try clear hcz35_1
              try clear hcz35_2
              try clear hcz35_3
              try clear hcz36_0
              try clear hcz36_1
              try clear hcz36_2
              try clear hcz36_3
              try clear hcz5_0
              try clear hcz5_1
              try clear hcz5_2
              try clear hcz5_3
              try clear hcz7_0
              try clear hcz7_1
              try clear hcz7_2
              try clear hcz7_3
              try clear hcz9_0
              try clear hcz9_1
              try clear hcz9_2
              try clear hcz9_3
              try clear hfz10_0
              try clear hfz10_1
              try clear hfz10_2
              try clear hfz10_3
              try clear hfz16_0
              try clear hfz16_1
              try clear hfz16_2
              try clear hfz16_3
              try clear hfz17_0
              try clear hfz17_1
              try clear hfz17_2
              try clear hfz17_3
              try clear hfz18_0
              try clear hfz18_1
              try clear hfz18_2
              try clear hfz18_3
              try clear hfz23_0
              try clear hfz23_1
              try clear hfz23_2
              try clear hfz23_3
              try clear hfz24_0
              try clear hfz24_1
              try clear hfz24_2
              try clear hfz24_3
              try clear hfz26_0
              try clear hfz26_1
              try clear hfz26_2
              try clear hfz26_3
              try clear hfz29_0
              try clear hfz29_1
              try clear hfz29_2
              try clear hfz29_3
              try clear hfz31_0
              try clear hfz31_1
              try clear hfz31_2
              try clear hfz31_3
              try clear hfz35_0
              try clear hfz35_1
              try clear hfz35_2
              try clear hfz35_3
              try clear hfz36_0
              try clear hfz36_1
              try clear hfz36_2
              try clear hfz36_3
              try clear hfz5_0
              try clear hfz5_1
              try clear hfz5_2
              try clear hfz5_3
              try clear hfz7_0
              try clear hfz7_1
              try clear hfz7_2
              try clear hfz7_3
              try clear hfz9_0
              try clear hfz9_1
              try clear hfz9_2
              try clear hfz9_3
              try clear hx102_0
              try clear hx104_0
              try clear p1
              try clear p10
              try clear p102
              try clear p104
              try clear p2
              try clear p6
              try clear q1
              try clear q10
              try clear q102
              try clear q104
              obtain ⟨kq, x77_32, rfl, HA, HJ32, BK101, HB⟩ := hcut
              cases kq with
              | zero => exact absurd HA.out (by simp [wickerref02_Check.j4])
              | succ kj32 =>
               have H := HA.out
               clear HA
               simp only [wickerref02_Check.j4] at H
               by_cases c37 : x77_32 = true
               ·subst c37
                have H1 : (some 3) = some r := by rw [if_pos rfl] at H; exact H
                clear H
                have H := H1
                clear H1
                obtain rfl := Option.some.inj H
                go_wp2
                go_ret
                exact ⟨by first | rfl | (simp [errW_none, errW_some] <;> rfl) | (simp [*, errW_none, errW_some] <;> rfl), by repeat (first | (with_reducible first | exact HB.out | apply below_alloc | apply pw_below_drewN | apply below_drew1 | refine below_set ?_ GE101.out) | exact HB.out)⟩
               ·replace c37 := Bool.eq_false_iff.mpr c37
                subst c37
                have H1 : (wickerref02_Check.l2 kj32 0 l0_0 l0_1 a0_2 l0_3) = some r := by rw [if_neg (show ¬ (false = true) by decide)] at H; exact H
                clear H
                have H := H1
                clear H1
                have H' := Aside0.mk H
                clear H
                go_wp2
                go_loopg [5] kj32 (fun kq v5 w' => ∃ (x5_6 : Int), v5 = .int .i64 x5_6 ∧ Aside0 (wickerref02_Check.l2 kq x5_6 l0_0 l0_1 a0_2 l0_3 = some r) ∧ Aside0 (kq ≤ kj32) ∧ Aside0 (w'.heap[gb101]? = some (.cells #[(.slice A0_0 l0_0.length c0_0), (.slice A0_1 l0_1.length c0_1), .int .i64 a0_2, (.slice A0_3 l0_3.length c0_3)] 63 (0, 0))) ∧ Aside0 (Below w.heap.size w w'))
                case atStart => exact ⟨(0), (by first | rfl | (simp; done) | (simp [*]; done)), H', ⟨Nat.le_refl _⟩, ⟨by (with_reducible repeat (first | refine blk_drewN ?_ _ | refine blk_drew ?_ | refine blk_alloc ?_ _)); exact BK101.out⟩, ⟨by repeat (first | (with_reducible first | exact HB.out | apply below_alloc | apply pw_below_drewN | apply below_drew1 | refine below_set ?_ GE101.out) | exact HB.out)⟩⟩
                case round =>
                 clear H'
                 try clear c1
                 try clear p1
                 try clear q1
                 try clear hx1
                 try clear c2
                 try clear p2
                 try clear c3
                 try clear c4
                 try clear c4b0
                 try clear c4b1
                 try clear c6
                 try clear c6b0
                 try clear c6b1
                 try clear p6
                 try clear c8
                 try clear c8b0
                 try clear c8b1
                 try clear p10
                 try clear q10
                 try clear hx10
                 try clear c11
                 try clear c12
                 try clear c12b0
                 try clear c13
                 try clear c13b0
                 try clear c15
                 try clear c19
                 try clear c19b0
                 try clear c20
                 try clear c20b0
                 try clear c22
                 try clear c28
                 try clear c32
                 try clear c34
                 try clear c34b0
                 try clear c37
                 try clear hcz10_0
                 try clear hcz10_1
                 try clear hcz10_2
                 try clear hcz10_3
                 try clear hcz16_0
                 try clear hcz16_1
                 try clear hcz16_2
                 try clear hcz16_3
                 try clear hcz17_0
                 try clear hcz17_1
                 try clear hcz17_2
                 try clear hcz17_3
                 try clear hcz18_0
                 try clear hcz18_1
                 try clear hcz18_2
                 try clear hcz18_3
                 try clear hcz23_0
                 try clear hcz23_1
                 try clear hcz23_2
                 try clear hcz23_3
                 try clear hcz24_0
                 try clear hcz24_1
                 try clear hcz24_2
                 try clear hcz24_3
                 try clear hcz26_0
                 try clear hcz26_1
                 try clear hcz26_2
                 try clear hcz26_3
                 try clear hcz29_0
                 try clear hcz29_1
                 try clear hcz29_2
                 try clear hcz29_3
                 try clear hcz31_0
                 try clear hcz31_1
                 try clear hcz31_2
                 try clear hcz31_3
                 try clear hcz35_0
                 try clear hcz35_1
                 try clear hcz35_2
                 try clear hcz35_3
                 try clear hcz36_0
                 try clear hcz36_1
                 try clear hcz36_2
                 try clear hcz36_3
                 try clear hcz5_0
                 try clear hcz5_1
                 try clear hcz5_2
                 try clear hcz5_3
                 try clear hcz7_0
                 try clear hcz7_1
                 try clear hcz7_2
                 try clear hcz7_3
                 try clear hcz9_0
                 try clear hcz9_1
                 try clear hcz9_2
                 try clear hcz9_3
                 try clear hfz10_0
                 try clear hfz10_1
                 try clear hfz10_2
                 try clear hfz10_3
                 try clear hfz16_0
                 try clear hfz16_1
                 try clear hfz16_2
                 try clear hfz16_3
                 try clear hfz17_0
                 try clear hfz17_1
                 try clear hfz17_2
                 try clear hfz17_3
                 try clear hfz18_0
                 try clear hfz18_1
                 try clear hfz18_2
                 try clear hfz18_3
                 try clear hfz23_0
                 try clear hfz23_1
                 try clear hfz23_2
                 try clear hfz23_3
                 try clear hfz24_0
                 try clear hfz24_1
                 try clear hfz24_2
                 try clear hfz24_3
                 try clear hfz26_0
                 try clear hfz26_1
                 try clear hfz26_2
                 try clear hfz26_3
                 try clear hfz29_0
                 try clear hfz29_1
                 try clear hfz29_2
                 try clear hfz29_3
                 try clear hfz31_0
                 try clear hfz31_1
                 try clear hfz31_2
                 try clear hfz31_3
                 try clear hfz35_0
                 try clear hfz35_1
                 try clear hfz35_2
                 try clear hfz35_3
                 try clear hfz36_0
                 try clear hfz36_1
                 try clear hfz36_2
                 try clear hfz36_3
                 try clear hfz5_0
                 try clear hfz5_1
                 try clear hfz5_2
                 try clear hfz5_3
                 try clear hfz7_0
                 try clear hfz7_1
                 try clear hfz7_2
                 try clear hfz7_3
                 try clear hfz9_0
                 try clear hfz9_1
                 try clear hfz9_2
                 try clear hfz9_3
                 try clear hx102_0
                 try clear hx104_0
                 try clear p1
                 try clear p10
                 try clear p102
                 try clear p104
                 try clear p2
                 try clear p6
                 try clear q1
                 try clear q10
                 try clear q102
                 try clear q104
                 obtain ⟨x5_6, rfl, HA, HK6, BK101, HB⟩ := hrel
                 cases gk with
                 | zero => exact absurd HA.out (by simp [wickerref02_Check.l2])
                 | succ k6 =>
                  have H := HA.out
                  clear HA
                  simp only [wickerref02_Check.l2] at H
                  by_cases c38 : x5_6 < (l0_3.length : Int)
                  ·rw [if_pos c38] at H
                   have c38b0 : decide (x5_6 < (l0_3.length : Int)) = true := decide_eq_true c38
                   clear c38
                   by_cases c39 : 0 ≤ x5_6
                   ·rw [if_pos c39] at H
                    have c39b0 : decide (0 ≤ x5_6) = true := decide_eq_true c39
                    clear c39
                    have HC40 := Aside0.mk H
                    clear H
                    have hcz41_0 : wr.cell? ⟨gb101, 0, none⟩ = some (.slice A0_0 l0_0.length c0_0) := (blk_cell BK101.out 0).trans rfl
                    have hcz41_1 : wr.cell? ⟨gb101, 1, none⟩ = some (.slice A0_1 l0_1.length c0_1) := (blk_cell BK101.out 1).trans rfl
                    have hcz41_2 : wr.cell? ⟨gb101, 2, none⟩ = some (.int .i64 a0_2) := (blk_cell BK101.out 2).trans rfl
                    have hcz41_3 : wr.cell? ⟨gb101, 3, none⟩ = some (.slice A0_3 l0_3.length c0_3) := (blk_cell BK101.out 3).trans rfl
                    have hfz41_0 := blk_frozen BK101.out 0
                    have hfz41_1 := blk_frozen BK101.out 1
                    have hfz41_2 := blk_frozen BK101.out 2
                    have hfz41_3 := blk_frozen BK101.out 3
                    have p108 : 0 ≤ (x5_6 : Int) := of_decide_eq_true (by first | (with_reducible assumption) | assumption)
                    have q108 : x5_6 < (l0_3.length : Int) := of_decide_eq_true (by first | (with_reducible assumption) | assumption)
                    obtain ⟨ad108, A108_1, c108_1, e108, hx108_0, hx108_1, hl108_1, hi108_1⟩ := at_T87 HR0_3.out x5_6 p108 q108
                    cases e108
                    replace hx108_0 := (HB.out.cell (World.block_lt_of_cell? w _ hx108_0)).trans hx108_0
                    replace hx108_1 := (HB.out.cell (World.block_lt_of_cell? w _ hx108_1)).trans hx108_1
                    have HR108_1 := Aside0.mk hi108_1
                    have HC108_1 := Aside0.mk hl108_1
                    clear hi108_1 hl108_1
                    replace p108 := eq_true p108
                    replace q108 := eq_true q108
                    go_upto_region 21 with (first | ((with_reducible refine gate_dst (N := 6) rfl ?_); (try (refine gate_guard (by rfl) ?_; dsimp only)); refine box_event ?hg (N := 6) ?hd (cs := #[.int .i64 0, .slice none 0 0]) (t := 87) ?hr ?_; (case hd => rfl); (case hg => rfl); (case hr => first | (go_simp; done) | (go_simp; rfl)); intro gb109 hg w42 hbox hb; have n0_ := Aside0.mk (blk_below (g := gb101) (o := .cells #[.slice A0_0 l0_0.length c0_0, .slice A0_1 l0_1.length c0_1, .int .i64 a0_2, .slice (some ad108) l0_3.length c0_3] 63 (0, 0)) (by (with_reducible repeat (first | refine blk_drewN ?_ _ | refine blk_drew ?_ | refine blk_alloc ?_ _)); exact BK101.out) hb); have n1_ := Aside0.mk (below_step (by repeat (first | (with_reducible first | exact HB.out | apply below_alloc | apply pw_below_drewN | apply below_drew1 | refine below_set ?_ GE101.out) | exact HB.out)) hb); have n2_ := Aside0.mk (hbox); have n3_ := Aside0.mk ((by rw [hg]; exact (below_size (by repeat (first | (with_reducible first | exact HB.out | apply below_alloc | apply pw_below_drewN | apply below_drew1 | refine below_set ?_ GE101.out) | exact HB.out))) : w.heap.size ≤ gb109)); have n4_ := Aside0.mk ((by rw [hg]; exact (below_size (by repeat (first | (with_reducible first | exact HB.out | apply below_alloc | apply pw_below_drewN | apply below_drew1 | refine below_set ?_ GE101.out) | exact HB.out))) : w.heap.size ≤ gb109)); have n5_ := Aside0.mk ((by rw [hg]; exact Nat.ne_of_lt (blk_lt (g := gb101) (o := .cells #[.slice A0_0 l0_0.length c0_0, .slice A0_1 l0_1.length c0_1, .int .i64 a0_2, .slice (some ad108) l0_3.length c0_3] 63 (0, 0)) (by (with_reducible repeat (first | refine blk_drewN ?_ _ | refine blk_drew ?_ | refine blk_alloc ?_ _)); exact BK101.out)) : gb101 ≠ gb109)); have n6_ := Aside0.mk ((by rw [hg]; exact Nat.ne_of_gt (blk_lt (g := gb101) (o := .cells #[.slice A0_0 l0_0.length c0_0, .slice A0_1 l0_1.length c0_1, .int .i64 a0_2, .slice (some ad108) l0_3.length c0_3] 63 (0, 0)) (by (with_reducible repeat (first | refine blk_drewN ?_ _ | refine blk_drew ?_ | refine blk_alloc ?_ _)); exact BK101.out)) : gb109 ≠ gb101)); clear BK101; clear HB; have BK101 := n0_; have HB := n1_; have BK109 := n2_; have GW109 := n3_; have GE109 := n4_; have NB101_109 := n5_; have NB109_101 := n6_; clear n0_ n1_ n2_ n3_ n4_ n5_ n6_; clear hb hbox hg; have hnb43 := NB109_101.out; have hnc43 := NB101_109.out; have hcz44_0 : w42.cell? ⟨gb109, 0, none⟩ = some (.int .i64 0) := (blk_cell BK109.out 0).trans rfl; have hcz44_1 : w42.cell? ⟨gb109, 1, none⟩ = some (.slice none 0 0) := (blk_cell BK109.out 1).trans rfl; have hfz44_0 := blk_frozen BK109.out 0; have hfz44_1 := blk_frozen BK109.out 1))
                    (try simp only [Act.put, List.setIfInBounds_toArray, List.set_cons_zero, List.set_cons_succ])
                    go_cut [100] (fun v100 wc => ∃ (kq : Nat) (x100_39 : Bool), v100 = .bool x100_39 ∧ Aside0 (wickerref02_Check.j6 kq x5_6 x100_39 l0_0 l0_1 a0_2 l0_3 ((rd_T87 l0_3 x5_6).f0) ((rd_T87 l0_3 x5_6).f1) = some r) ∧ Aside0 (kq ≤ k6) ∧ Aside0 (wc.heap[gb101]? = some (.cells #[(.slice A0_0 l0_0.length c0_0), (.slice A0_1 l0_1.length c0_1), .int .i64 a0_2, (.slice (some ad108) l0_3.length c0_3)] 63 (0, 0))) ∧ Aside0 (wc.heap[gb109]? = some (.cells #[.int .i64 ((rd_T87 l0_3 x5_6).f0), (.slice A108_1 ((rd_T87 l0_3 x5_6).f1).length c108_1)] 87 (0, 0))) ∧ Aside0 (Below w.heap.size w wc))
                    case first =>
                     have H := HC40.out
                     clear HC40
                     by_cases c45 : ((rd_T87 l0_3 x5_6).f0) < 0
                     ·rw [if_pos c45] at H
                      have c45b0 : decide (((rd_T87 l0_3 x5_6).f0) < 0) = true := decide_eq_true c45
                      clear c45
                      (first | rw [c45b0] | (simp only [i64_w, i32_w]; rw [c45b0]) | skip)
                      have H' := Aside0.mk H
                      clear H
                      have hnb46 := NB109_101.out
                      have hnc46 := NB101_109.out
                      have hcz47_0 : w42.cell? ⟨gb109, 0, none⟩ = some (.int .i64 0) := (blk_cell BK109.out 0).trans rfl
                      have hcz47_1 : w42.cell? ⟨gb109, 1, none⟩ = some (.slice none 0 0) := (blk_cell BK109.out 1).trans rfl
                      have hfz47_0 := blk_frozen BK109.out 0
                      have hfz47_1 := blk_frozen BK109.out 1
                      go_wp2
                      go_meet
                      case rel => exact ⟨_, (true), (by first | rfl | (simp; done) | (simp [*]; done)), H', ⟨by have := HJ1.out; have := HK2.out; have := HK3.out; have := HJ24.out; have := HJ32.out; have := HK6.out; first | omega | exact Nat.le_refl _⟩, ⟨by (with_reducible repeat (first | refine blk_drewN ?_ _ | refine blk_drew ?_ | refine blk_alloc ?_ _)); refine blk_far ?_ NB101_109.out _; (with_reducible repeat (first | refine blk_drewN ?_ _ | refine blk_drew ?_ | refine blk_alloc ?_ _)); refine blk_far ?_ NB101_109.out _; (with_reducible repeat (first | refine blk_drewN ?_ _ | refine blk_drew ?_ | refine blk_alloc ?_ _)); exact BK101.out⟩, ⟨by (with_reducible repeat (first | refine blk_drewN ?_ _ | refine blk_drew ?_ | refine blk_alloc ?_ _)); refine blk_put (cs := #[.int .i64 ((rd_T87 l0_3 x5_6).f0), .slice none 0 0]) ?_ 1 _ rfl; (with_reducible repeat (first | refine blk_drewN ?_ _ | refine blk_drew ?_ | refine blk_alloc ?_ _)); refine blk_put (cs := #[.int .i64 0, .slice none 0 0]) ?_ 0 _ rfl; (with_reducible repeat (first | refine blk_drewN ?_ _ | refine blk_drew ?_ | refine blk_alloc ?_ _)); exact BK109.out⟩, ⟨by repeat (first | (with_reducible first | exact HB.out | apply below_alloc | apply pw_below_drewN | apply below_drew1 | refine below_set ?_ GE101.out | refine below_set ?_ GE109.out) | exact HB.out)⟩⟩
                     ·rw [if_neg c45] at H
                      have c45b0 : decide (((rd_T87 l0_3 x5_6).f0) < 0) = false := decide_eq_false c45
                      clear c45
                      (first | rw [c45b0] | (simp only [i64_w, i32_w]; rw [c45b0]) | skip)
                      have H' := Aside0.mk H
                      clear H
                      have hnb48 := NB109_101.out
                      have hnc48 := NB101_109.out
                      have hcz49_0 : w42.cell? ⟨gb109, 0, none⟩ = some (.int .i64 0) := (blk_cell BK109.out 0).trans rfl
                      have hcz49_1 : w42.cell? ⟨gb109, 1, none⟩ = some (.slice none 0 0) := (blk_cell BK109.out 1).trans rfl
                      have hfz49_0 := blk_frozen BK109.out 0
                      have hfz49_1 := blk_frozen BK109.out 1
                      have hcz50_0 : w42.cell? ⟨gb101, 0, none⟩ = some (.slice A0_0 l0_0.length c0_0) := (blk_cell BK101.out 0).trans rfl
                      have hcz50_1 : w42.cell? ⟨gb101, 1, none⟩ = some (.slice A0_1 l0_1.length c0_1) := (blk_cell BK101.out 1).trans rfl
                      have hcz50_2 : w42.cell? ⟨gb101, 2, none⟩ = some (.int .i64 a0_2) := (blk_cell BK101.out 2).trans rfl
                      have hcz50_3 : w42.cell? ⟨gb101, 3, none⟩ = some (.slice (some ad108) l0_3.length c0_3) := (blk_cell BK101.out 3).trans rfl
                      have hfz50_0 := blk_frozen BK101.out 0
                      have hfz50_1 := blk_frozen BK101.out 1
                      have hfz50_2 := blk_frozen BK101.out 2
                      have hfz50_3 := blk_frozen BK101.out 3
                      go_wp2
                      go_meet
                      case rel => exact ⟨_, (decide (((rd_T87 l0_3 x5_6).f0) ≥ (l0_0.length : Int))), (by first | rfl | (simp; done) | (simp [*]; done)), H', ⟨by have := HJ1.out; have := HK2.out; have := HK3.out; have := HJ24.out; have := HJ32.out; have := HK6.out; first | omega | exact Nat.le_refl _⟩, ⟨by (with_reducible repeat (first | refine blk_drewN ?_ _ | refine blk_drew ?_ | refine blk_alloc ?_ _)); refine blk_far ?_ NB101_109.out _; (with_reducible repeat (first | refine blk_drewN ?_ _ | refine blk_drew ?_ | refine blk_alloc ?_ _)); refine blk_far ?_ NB101_109.out _; (with_reducible repeat (first | refine blk_drewN ?_ _ | refine blk_drew ?_ | refine blk_alloc ?_ _)); exact BK101.out⟩, ⟨by (with_reducible repeat (first | refine blk_drewN ?_ _ | refine blk_drew ?_ | refine blk_alloc ?_ _)); refine blk_put (cs := #[.int .i64 ((rd_T87 l0_3 x5_6).f0), .slice none 0 0]) ?_ 1 _ rfl; (with_reducible repeat (first | refine blk_drewN ?_ _ | refine blk_drew ?_ | refine blk_alloc ?_ _)); refine blk_put (cs := #[.int .i64 0, .slice none 0 0]) ?_ 0 _ rfl; (with_reducible repeat (first | refine blk_drewN ?_ _ | refine blk_drew ?_ | refine blk_alloc ?_ _)); exact BK109.out⟩, ⟨by repeat (first | (with_reducible first | exact HB.out | apply below_alloc | apply pw_below_drewN | apply below_drew1 | refine below_set ?_ GE101.out | refine below_set ?_ GE109.out) | exact HB.out)⟩⟩
                    case rest =>
                     clear HC40
                     try clear c1
                     try clear p1
                     try clear q1
                     try clear hx1
                     try clear c2
                     try clear p2
                     try clear c3
                     try clear c4
                     try clear c4b0
                     try clear c4b1
                     try clear c6
                     try clear c6b0
                     try clear c6b1
                     try clear p6
                     try clear c8
                     try clear c8b0
                     try clear c8b1
                     try clear c10
                     try clear p10
                     try clear q10
                     try clear hx10
                     try clear c11
                     try clear c12
                     try clear c12b0
                     try clear c13
                     try clear c13b0
                     try clear c15
                     try clear c19
                     try clear c19b0
                     try clear c20
                     try clear c20b0
                     try clear c22
                     try clear c28
                     try clear c32
                     try clear c34
                     try clear c34b0
                     try clear c37
                     try clear c38
                     try clear c38b0
                     try clear c39
                     try clear c39b0
                     try clear c43
                     try clear c45
                     try clear c45b0
                     try clear c46
                     try clear c48
                     try clear hcz10_0
                     try clear hcz10_1
                     try clear hcz10_2
                     try clear hcz10_3
                     try clear hcz16_0
                     try clear hcz16_1
                     try clear hcz16_2
                     try clear hcz16_3
                     try clear hcz17_0
                     try clear hcz17_1
                     try clear hcz17_2
                     try clear hcz17_3
                     try clear hcz18_0
                     try clear hcz18_1
                     try clear hcz18_2
                     try clear hcz18_3
                     try clear hcz23_0
                     try clear hcz23_1
                     try clear hcz23_2
                     try clear hcz23_3
                     try clear hcz24_0
                     try clear hcz24_1
                     try clear hcz24_2
                     try clear hcz24_3
                     try clear hcz26_0
                     try clear hcz26_1
                     try clear hcz26_2
                     try clear hcz26_3
                     try clear hcz29_0
                     try clear hcz29_1
                     try clear hcz29_2
                     try clear hcz29_3
                     try clear hcz31_0
                     try clear hcz31_1
                     try clear hcz31_2
                     try clear hcz31_3
                     try clear hcz35_0
                     try clear hcz35_1
                     try clear hcz35_2
                     try clear hcz35_3
                     try clear hcz36_0
                     try clear hcz36_1
                     try clear hcz36_2
                     try clear hcz36_3
                     try clear hcz41_0
                     try clear hcz41_1
                     try clear hcz41_2
                     try clear hcz41_3
                     try clear hcz44_0
                     try clear hcz44_1
                     try clear hcz47_0
                     try clear hcz47_1
                     try clear hcz49_0
                     try clear hcz49_1
                     try clear hcz50_0
                     try clear hcz50_1
                     try clear hcz50_2
                     try clear hcz50_3
                     try clear hcz5_0
                     try clear hcz5_1
                     try clear hcz5_2
                     try clear hcz5_3
                     try clear hcz7_0
                     try clear hcz7_1
                     try clear hcz7_2
                     try clear hcz7_3
                     try clear hcz9_0
                     try clear hcz9_1
                     try clear hcz9_2
                     try clear hcz9_3
                     try clear hfz10_0
                     try clear hfz10_1
                     try clear hfz10_2
                     try clear hfz10_3
                     try clear hfz16_0
                     try clear hfz16_1
                     try clear hfz16_2
                     try clear hfz16_3
                     try clear hfz17_0
                     try clear hfz17_1
                     try clear hfz17_2
                     try clear hfz17_3
                     try clear hfz18_0
                     try clear hfz18_1
                     try clear hfz18_2
                     try clear hfz18_3
                     try clear hfz23_0
                     try clear hfz23_1
                     try clear hfz23_2
                     try clear hfz23_3
                     try clear hfz24_0
                     try clear hfz24_1
                     try clear hfz24_2
                     try clear hfz24_3
                     try clear hfz26_0
                     try clear hfz26_1
                     try clear hfz26_2
                     try clear hfz26_3
                     try clear hfz29_0
                     try clear hfz29_1
                     try clear hfz29_2
                     try clear hfz29_3
                     try clear hfz31_0
                     try clear hfz31_1
                     try clear hfz31_2
                     try clear hfz31_3
                     try clear hfz35_0
                     try clear hfz35_1
                     try clear hfz35_2
                     try clear hfz35_3
                     try clear hfz36_0
                     try clear hfz36_1
                     try clear hfz36_2
                     try clear hfz36_3
                     try clear hfz41_0
                     try clear hfz41_1
                     try clear hfz41_2
                     try clear hfz41_3
                     try clear hfz44_0
                     try clear hfz44_1
                     try clear hfz47_0
                     try clear hfz47_1
                     try clear hfz49_0
                     try clear hfz49_1
                     try clear hfz50_0
                     try clear hfz50_1
                     try clear hfz50_2
                     try clear hfz50_3
                     try clear hfz5_0
                     try clear hfz5_1
                     try clear hfz5_2
                     try clear hfz5_3
                     try clear hfz7_0
                     try clear hfz7_1
                     try clear hfz7_2
                     try clear hfz7_3
                     try clear hfz9_0
                     try clear hfz9_1
                     try clear hfz9_2
                     try clear hfz9_3
                     try clear hx102_0
                     try clear hx104_0
                     try clear hx108_0
                     try clear hx108_1
                     try clear p1
                     try clear p10
                     try clear p102
                     try clear p104
                     try clear p108
                     try clear p2
                     try clear p6
                     try clear q1
                     try clear q10
                     try clear q102
                     try clear q104
                     try clear q108
                     obtain ⟨kq, x100_39, rfl, HA, HJ39, BK101, BK109, HB⟩ := hcut
                     cases kq with
                     | zero => exact absurd HA.out (by simp [wickerref02_Check.j6])
                     | succ kj39 =>
                      have H := HA.out
                      clear HA
                      simp only [wickerref02_Check.j6] at H
                      by_cases c51 : x100_39 = true
                      ·subst c51
                       have H1 : (some 3) = some r := by rw [if_pos rfl] at H; exact H
                       clear H
                       have H := H1
                       clear H1
                       obtain rfl := Option.some.inj H
                       go_wp2
                       go_ret
                       exact ⟨by first | rfl | (simp [errW_none, errW_some] <;> rfl) | (simp [*, errW_none, errW_some] <;> rfl), by repeat (first | (with_reducible first | exact HB.out | apply below_alloc | apply pw_below_drewN | apply below_drew1 | refine below_set ?_ GE101.out | refine below_set ?_ GE109.out) | exact HB.out)⟩
                      ·replace c51 := Bool.eq_false_iff.mpr c51
                       subst c51
                       have H1 : (wickerref02_Check.l3 kj39 x5_6 0 l0_0 l0_1 a0_2 l0_3 ((rd_T87 l0_3 x5_6).f0) ((rd_T87 l0_3 x5_6).f1)) = some r := by rw [if_neg (show ¬ (false = true) by decide)] at H; exact H
                       clear H
                       have H := H1
                       clear H1
                       have H' := Aside0.mk H
                       clear H
                       go_wp2
                       go_loopg [7] kj39 (fun kq v7 w' => ∃ (x7_8 : Int), v7 = .int .i64 x7_8 ∧ Aside0 (wickerref02_Check.l3 kq x5_6 x7_8 l0_0 l0_1 a0_2 l0_3 ((rd_T87 l0_3 x5_6).f0) ((rd_T87 l0_3 x5_6).f1) = some r) ∧ Aside0 (kq ≤ kj39) ∧ Aside0 (w'.heap[gb101]? = some (.cells #[(.slice A0_0 l0_0.length c0_0), (.slice A0_1 l0_1.length c0_1), .int .i64 a0_2, (.slice (some ad108) l0_3.length c0_3)] 63 (0, 0))) ∧ Aside0 (w'.heap[gb109]? = some (.cells #[.int .i64 ((rd_T87 l0_3 x5_6).f0), (.slice A108_1 ((rd_T87 l0_3 x5_6).f1).length c108_1)] 87 (0, 0))) ∧ Aside0 (Below w.heap.size w w'))
                       case atStart => exact ⟨(0), (by first | rfl | (simp; done) | (simp [*]; done)), H', ⟨Nat.le_refl _⟩, ⟨by (with_reducible repeat (first | refine blk_drewN ?_ _ | refine blk_drew ?_ | refine blk_alloc ?_ _)); exact BK101.out⟩, ⟨by (with_reducible repeat (first | refine blk_drewN ?_ _ | refine blk_drew ?_ | refine blk_alloc ?_ _)); exact BK109.out⟩, ⟨by repeat (first | (with_reducible first | exact HB.out | apply below_alloc | apply pw_below_drewN | apply below_drew1 | refine below_set ?_ GE101.out | refine below_set ?_ GE109.out) | exact HB.out)⟩⟩
                       case round =>
                        clear H'
                        try clear c1
                        try clear p1
                        try clear q1
                        try clear hx1
                        try clear c2
                        try clear p2
                        try clear c3
                        try clear c4
                        try clear c4b0
                        try clear c4b1
                        try clear c5
                        try clear c6
                        try clear c6b0
                        try clear c6b1
                        try clear p6
                        try clear c8
                        try clear c8b0
                        try clear c8b1
                        try clear c10
                        try clear p10
                        try clear q10
                        try clear hx10
                        try clear c11
                        try clear c12
                        try clear c12b0
                        try clear c13
                        try clear c13b0
                        try clear c15
                        try clear c19
                        try clear c19b0
                        try clear c20
                        try clear c20b0
                        try clear c22
                        try clear c28
                        try clear c32
                        try clear c34
                        try clear c34b0
                        try clear c37
                        try clear c38
                        try clear c38b0
                        try clear c39
                        try clear c39b0
                        try clear c43
                        try clear c45
                        try clear c45b0
                        try clear c46
                        try clear c48
                        try clear c51
                        try clear hcz10_0
                        try clear hcz10_1
                        try clear hcz10_2
                        try clear hcz10_3
                        try clear hcz16_0
                        try clear hcz16_1
                        try clear hcz16_2
                        try clear hcz16_3
                        try clear hcz17_0
                        try clear hcz17_1
                        try clear hcz17_2
                        try clear hcz17_3
                        try clear hcz18_0
                        try clear hcz18_1
                        try clear hcz18_2
                        try clear hcz18_3
                        try clear hcz23_0
                        try clear hcz23_1
                        try clear hcz23_2
                        try clear hcz23_3
                        try clear hcz24_0
                        try clear hcz24_1
                        try clear hcz24_2
                        try clear hcz24_3
                        try clear hcz26_0
                        try clear hcz26_1
                        try clear hcz26_2
                        try clear hcz26_3
                        try clear hcz29_0
                        try clear hcz29_1
                        try clear hcz29_2
                        try clear hcz29_3
                        try clear hcz31_0
                        try clear hcz31_1
                        try clear hcz31_2
                        try clear hcz31_3
                        try clear hcz35_0
                        try clear hcz35_1
                        try clear hcz35_2
                        try clear hcz35_3
                        try clear hcz36_0
                        try clear hcz36_1
                        try clear hcz36_2
                        try clear hcz36_3
                        try clear hcz41_0
                        try clear hcz41_1
                        try clear hcz41_2
                        try clear hcz41_3
                        try clear hcz44_0
                        try clear hcz44_1
                        try clear hcz47_0
                        try clear hcz47_1
                        try clear hcz49_0
                        try clear hcz49_1
                        try clear hcz50_0
                        try clear hcz50_1
                        try clear hcz50_2
                        try clear hcz50_3
                        try clear hcz5_0
                        try clear hcz5_1
                        try clear hcz5_2
                        try clear hcz5_3
                        try clear hcz7_0
                        try clear hcz7_1
                        try clear hcz7_2
                        try clear hcz7_3
                        try clear hcz9_0
                        try clear hcz9_1
                        try clear hcz9_2
                        try clear hcz9_3
                        try clear hfz10_0
                        try clear hfz10_1
                        try clear hfz10_2
                        try clear hfz10_3
                        try clear hfz16_0
                        try clear hfz16_1
                        try clear hfz16_2
                        try clear hfz16_3
                        try clear hfz17_0
                        try clear hfz17_1
                        try clear hfz17_2
                        try clear hfz17_3
                        try clear hfz18_0
                        try clear hfz18_1
                        try clear hfz18_2
                        try clear hfz18_3
                        try clear hfz23_0
                        try clear hfz23_1
                        try clear hfz23_2
                        try clear hfz23_3
                        try clear hfz24_0
                        try clear hfz24_1
                        try clear hfz24_2
                        try clear hfz24_3
                        try clear hfz26_0
                        try clear hfz26_1
                        try clear hfz26_2
                        try clear hfz26_3
                        try clear hfz29_0
                        try clear hfz29_1
                        try clear hfz29_2
                        try clear hfz29_3
                        try clear hfz31_0
                        try clear hfz31_1
                        try clear hfz31_2
                        try clear hfz31_3
                        try clear hfz35_0
                        try clear hfz35_1
                        try clear hfz35_2
                        try clear hfz35_3
                        try clear hfz36_0
                        try clear hfz36_1
                        try clear hfz36_2
                        try clear hfz36_3
                        try clear hfz41_0
                        try clear hfz41_1
                        try clear hfz41_2
                        try clear hfz41_3
                        try clear hfz44_0
                        try clear hfz44_1
                        try clear hfz47_0
                        try clear hfz47_1
                        try clear hfz49_0
                        try clear hfz49_1
                        try clear hfz50_0
                        try clear hfz50_1
                        try clear hfz50_2
                        try clear hfz50_3
                        try clear hfz5_0
                        try clear hfz5_1
                        try clear hfz5_2
                        try clear hfz5_3
                        try clear hfz7_0
                        try clear hfz7_1
                        try clear hfz7_2
                        try clear hfz7_3
                        try clear hfz9_0
                        try clear hfz9_1
                        try clear hfz9_2
                        try clear hfz9_3
                        try clear hx102_0
                        try clear hx104_0
                        try clear hx108_0
                        try clear hx108_1
                        try clear p1
                        try clear p10
                        try clear p102
                        try clear p104
                        try clear p108
                        try clear p2
                        try clear p6
                        try clear q1
                        try clear q10
                        try clear q102
                        try clear q104
                        try clear q108
                        obtain ⟨x7_8, rfl, HA, HK8, BK101, BK109, HB⟩ := hrel
                        cases gk with
                        | zero => exact absurd HA.out (by simp [wickerref02_Check.l3])
                        | succ k8 =>
                         have H := HA.out
                         clear HA
                         simp only [wickerref02_Check.l3] at H
                         by_cases c52 : x7_8 < (((rd_T87 l0_3 x5_6).f1).length : Int)
                         ·rw [if_pos c52] at H
                          have c52b0 : decide (x7_8 < (((rd_T87 l0_3 x5_6).f1).length : Int)) = true := decide_eq_true c52
                          clear c52
                          by_cases c53 : 0 ≤ x7_8
                          ·rw [if_pos c53] at H
                           have c53b0 : decide (0 ≤ x7_8) = true := decide_eq_true c53
                           clear c53
                           replace H := Option.bind_eq_some_iff.mp H
                           obtain ⟨t111, A540, H⟩ := H
                           replace H : (if t111 = true then (wickerref02_Check.l3 k8 x5_6 (wrap64 (x7_8 + 1)) l0_0 l0_1 a0_2 l0_3 ((rd_T87 l0_3 x5_6).f0) ((rd_T87 l0_3 x5_6).f1)) else (some 3)) = some r := H
                           have A54 := Aside0.mk A540
                           clear A540
                           by_cases c55 : t111 = true
                           ·subst c55
                            have H1 : (wickerref02_Check.l3 k8 x5_6 (wrap64 (x7_8 + 1)) l0_0 l0_1 a0_2 l0_3 ((rd_T87 l0_3 x5_6).f0) ((rd_T87 l0_3 x5_6).f1)) = some r := by rw [if_pos rfl] at H; exact H
                            clear H
                            have H := H1
                            clear H1
                            have H' := Aside0.mk H
                            clear H
                            have hnb56 := NB109_101.out
                            have hnc56 := NB101_109.out
                            have hcz57_0 : wr.cell? ⟨gb109, 0, none⟩ = some (.int .i64 ((rd_T87 l0_3 x5_6).f0)) := (blk_cell BK109.out 0).trans rfl
                            have hcz57_1 : wr.cell? ⟨gb109, 1, none⟩ = some (.slice A108_1 ((rd_T87 l0_3 x5_6).f1).length c108_1) := (blk_cell BK109.out 1).trans rfl
                            have hfz57_0 := blk_frozen BK109.out 0
                            have hfz57_1 := blk_frozen BK109.out 1
                            try go_wp2
                            have n0_ := Aside0.mk (blk_drew BK101.out)
                            have n1_ := Aside0.mk (blk_drew BK109.out)
                            have n2_ := Aside0.mk (below_drew1 HB.out)
                            clear BK101
                            clear BK109
                            clear HB
                            have BK101 := n0_
                            have BK109 := n1_
                            have HB := n2_
                            clear n0_ n1_ n2_
                            have p110 : 0 ≤ (x7_8 : Int) := of_decide_eq_true (by first | (with_reducible assumption) | assumption)
                            have q110 : x7_8 < (((rd_T87 l0_3 x5_6).f1).length : Int) := of_decide_eq_true (by first | (with_reducible assumption) | assumption)
                            obtain ⟨ad110, e110, hx110_0⟩ := Kd.at_int HR108_1.out x7_8 p110 q110
                            have hw110_0 := hx110_0
                            cases e110
                            replace hx110_0 := (HB.out.cell (World.block_lt_of_cell? w _ hx110_0)).trans hx110_0
                            replace p110 := eq_true p110
                            replace q110 := eq_true q110
                            refine start_ (n := 8) (S := fun w' => w'.cell? ⟨gb101, 0, none⟩ = some (.slice A0_0 l0_0.length c0_0) ∧ w'.cell? ⟨gb101, 1, none⟩ = some (.slice A0_1 l0_1.length c0_1) ∧ w'.cell? ⟨gb101, 2, none⟩ = some (.int .i64 a0_2) ∧ w'.cell? ⟨gb101, 3, none⟩ = some (.slice (some ad108) l0_3.length c0_3) ∧ w'.cell? ⟨gb109, 0, none⟩ = some (.int .i64 ((rd_T87 l0_3 x5_6).f0)) ∧ w'.cell? ⟨gb109, 1, none⟩ = some (.slice (some ad110) ((rd_T87 l0_3 x5_6).f1).length c108_1) ∧ w'.cell? (ad110.add (x7_8).toNat) = some (.int .i64 (rd ((rd_T87 l0_3 x5_6).f1) x7_8))) (ds := []) #[false, false, false, false, false, false, false, false] (by kernel_rfl) rfl rfl ⟨(blk_cell BK101.out 0).trans rfl, (blk_cell BK101.out 1).trans rfl, (blk_cell BK101.out 2).trans rfl, (blk_cell BK101.out 3).trans rfl, (blk_cell BK109.out 0).trans rfl, (blk_cell BK109.out 1).trans rfl, ((HB.out.cell (World.block_lt_of_cell? w _ hw110_0)).trans hw110_0)⟩ (fun hHeld => ?_); refine with_tabW wickerref02_Check.tab26 wickerref02_Check.bits26 (fun HT_ HW_ => ?_)
                            generalize wr.drew = w58 at BK101 BK109 HB hx110_0 hHeld ⊢
                            refine pure_ (i := 1) (N := some 109) (v := ?_) (a' := ?_) #[false, true, false, false, false, false, false, false] rfl rfl (any_of HT_.out (by kernel_rfl)) (fun _ _ _ h => h) (Or.inl ⟨by rfl, ?_⟩) ?_ ?_
                            rotate_left
                            ·intro w'
                             go_simp
                             with_reducible rfl
                            rotate_left
                            ·simp only [Act.put, List.setIfInBounds_toArray, List.set_cons_zero, List.set_cons_succ, i64_w, i32_w]
                             rfl
                            refine pure_ (i := 3) (N := some 111) (v := ?_) (a' := ?_) #[false, true, false, true, false, false, false, false] rfl rfl (any_of HT_.out (by kernel_rfl)) (fun _ _ _ h => h) (Or.inl ⟨by rfl, ?_⟩) ?_ ?_
                            rotate_left
                            ·intro w'
                             go_simp
                             with_reducible rfl
                            rotate_left
                            ·simp only [Act.put, List.setIfInBounds_toArray, List.set_cons_zero, List.set_cons_succ, i64_w, i32_w]
                             rfl
                            refine take_ (i := 0) (N := some 108) (v := ?_) (a' := ?_) #[true, true, false, true, false, false, false, false] rfl rfl (take_ofW HT_.out HW_.out (by kernel_rfl)) (fun _ _ _ h => h) (Or.inl ⟨by rfl, ?_⟩) hHeld ?_ ?_
                            rotate_left
                            ·rintro w' ⟨s0, s1, s2, s3, s4, s5, s6⟩
                             go_simp
                             with_reducible rfl
                            rotate_left
                            ·simp only [Act.put, List.setIfInBounds_toArray, List.set_cons_zero, List.set_cons_succ, i64_w, i32_w]
                             rfl
                            refine take_ (i := 2) (N := some 110) (v := ?_) (a' := ?_) #[true, true, true, true, false, false, false, false] rfl rfl (take_ofW HT_.out HW_.out (by kernel_rfl)) (fun _ _ _ h => h) (Or.inl ⟨by rfl, ?_⟩) hHeld ?_ ?_
                            rotate_left
                            ·rintro w' ⟨s0, s1, s2, s3, s4, s5, s6⟩
                             go_simp
                             with_reducible rfl
                            rotate_left
                            ·simp only [Act.put, List.setIfInBounds_toArray, List.set_cons_zero, List.set_cons_succ, i64_w, i32_w]
                             rfl
                            refine pure_ (i := 4) (N := some 112) (v := ?_) (a' := ?_) #[true, true, true, true, true, false, false, false] rfl rfl (any_of HT_.out (by kernel_rfl)) (fun _ _ _ h => h) (Or.inl ⟨by rfl, ?_⟩) ?_ ?_
                            rotate_left
                            ·intro w'
                             go_simp
                             with_reducible rfl
                            rotate_left
                            ·simp only [Act.put, List.setIfInBounds_toArray, List.set_cons_zero, List.set_cons_succ, i64_w, i32_w]
                             rfl
                            refine take_ (i := 5) (N := some 113) (v := ?_) (a' := ?_) #[true, true, true, true, true, true, false, false] rfl rfl (take_ofW HT_.out HW_.out (by kernel_rfl)) (fun _ _ _ h => h) (Or.inl ⟨by rfl, ?_⟩) hHeld ?_ ?_
                            rotate_left
                            ·rintro w' ⟨s0, s1, s2, s3, s4, s5, s6⟩
                             go_simp
                             with_reducible rfl
                            rotate_left
                            ·simp only [Act.put, List.setIfInBounds_toArray, List.set_cons_zero, List.set_cons_succ, i64_w, i32_w]
                             rfl
                            refine one_ (i := 6) (N := some 114) #[true, true, true, true, true, true, true, false] rfl rfl (one_of HT_.out (by kernel_rfl)) (by decide) (fun K hK => ?_)
                            refine goes_ Tryd.func104 (by kernel_rfl) rfl #[.agg #[.slice A0_0 l0_0.length c0_0, .slice A0_1 l0_1.length c0_1, .int .i64 a0_2, .slice (some ad108) l0_3.length c0_3], .int .i64 (rd ((rd_T87 l0_3 x5_6).f1) x7_8)] (by rfl) rfl rfl (by (try simp only [List.map_toArray, List.map_cons, List.map_nil]); first | done | rfl | (simp only [List.length_drop, List.length_take]; rfl)) ?_
                            with_reducible refine (wickerref02_Has.calls _ _ l0_0 _ _ l0_1 a0_2 _ _ l0_3 (rd ((rd_T87 l0_3 x5_6).f1) x7_8) true _ ?side1 ?side2 ?side3 ?side4 ?side5 ?side6 A54.out).mono ?_
                            (case side1 => repeat (first | exact (Kd.C_below HR0_0.out HB.out) | (with_reducible refine Kd.C_alloc ?_ _) | (with_reducible refine Kd.C_drewN ?_ _) | (with_reducible refine Kd.C_drew ?_)))
                            (case side2 => exact HC0_0.out)
                            (case side3 => repeat (first | exact (Kd.C_below HR0_1.out HB.out) | (with_reducible refine Kd.C_alloc ?_ _) | (with_reducible refine Kd.C_drewN ?_ _) | (with_reducible refine Kd.C_drew ?_)))
                            (case side4 => exact HC0_1.out)
                            (case side5 => repeat (first | exact (Kd.C_below HR0_3.out HB.out) | (with_reducible refine Kd.C_alloc ?_ _) | (with_reducible refine Kd.C_drewN ?_ _) | (with_reducible refine Kd.C_drew ?_)))
                            (case side6 => exact HC0_3.out)
                            rintro e w59 ⟨rfl, hb⟩
                            refine ⟨_, rfl, ?_⟩
                            have n0_ := Aside0.mk (blk_below (g := gb101) (o := .cells #[.slice A0_0 l0_0.length c0_0, .slice A0_1 l0_1.length c0_1, .int .i64 a0_2, .slice (some ad108) l0_3.length c0_3] 63 (0, 0)) (by (with_reducible repeat (first | refine blk_drewN ?_ _ | refine blk_drew ?_ | refine blk_alloc ?_ _)); exact BK101.out) hb)
                            have n1_ := Aside0.mk (blk_below (g := gb109) (o := .cells #[.int .i64 ((rd_T87 l0_3 x5_6).f0), .slice (some ad110) ((rd_T87 l0_3 x5_6).f1).length c108_1] 87 (0, 0)) (by (with_reducible repeat (first | refine blk_drewN ?_ _ | refine blk_drew ?_ | refine blk_alloc ?_ _)); exact BK109.out) hb)
                            have n2_ := Aside0.mk (below_step (by repeat (first | (with_reducible first | exact HB.out | apply below_alloc | apply pw_below_drewN | apply below_drew1 | refine below_set ?_ GE101.out | refine below_set ?_ GE109.out) | exact HB.out)) hb)
                            clear BK101
                            clear BK109
                            clear HB
                            have BK101 := n0_
                            have BK109 := n1_
                            have HB := n2_
                            clear n0_ n1_ n2_
                            (try clear hb)
                            (try clear hb2)
                            (try clear hk)
                            (try clear hi)
                            refine hK.out _ _ ⟨(blk_cell BK101.out 0).trans rfl, (blk_cell BK101.out 1).trans rfl, (blk_cell BK101.out 2).trans rfl, (blk_cell BK101.out 3).trans rfl, (blk_cell BK109.out 0).trans rfl, (blk_cell BK109.out 1).trans rfl, ((HB.out.cell (World.block_lt_of_cell? w _ hw110_0)).trans hw110_0)⟩ (fun hHeld => ?_)
                            clear hK K
                            refine norm_ (a' := ?_) ?_ ?_
                            rotate_left
                            ·show Act.put _ (some 114) _ = _
                             simp only [Act.put, List.setIfInBounds_toArray, List.set_cons_zero, List.set_cons_succ, i64_w, i32_w]
                             rfl
                            refine pure_ (i := 7) (N := some 115) (v := ?_) (a' := ?_) #[true, true, true, true, true, true, true, true] rfl rfl (any_of HT_.out (by kernel_rfl)) (fun _ _ _ h => h) (Or.inl ⟨by rfl, ?_⟩) ?_ ?_
                            rotate_left
                            ·intro w'
                             go_simp
                             with_reducible rfl
                            rotate_left
                            ·simp only [Act.put, List.setIfInBounds_toArray, List.set_cons_zero, List.set_cons_succ, i64_w, i32_w]
                             rfl
                            refine done_ (done_of HT_.out (by kernel_rfl)) ?_
                            try go_wp2
                            go_roundg k8
                            case measure => have := HJ1.out; have := HK2.out; have := HK3.out; have := HJ24.out; have := HJ32.out; have := HK6.out; have := HJ39.out; have := HK8.out; omega
                            case rel => exact ⟨(wrap64 (x7_8 + 1)), (by first | rfl | (simp; done) | (simp [*]; done)), H', ⟨by have := HJ1.out; have := HK2.out; have := HK3.out; have := HJ24.out; have := HJ32.out; have := HK6.out; have := HJ39.out; have := HK8.out; omega⟩, ⟨by (with_reducible repeat (first | refine blk_drewN ?_ _ | refine blk_drew ?_ | refine blk_alloc ?_ _)); exact BK101.out⟩, ⟨by (with_reducible repeat (first | refine blk_drewN ?_ _ | refine blk_drew ?_ | refine blk_alloc ?_ _)); exact BK109.out⟩, ⟨by repeat (first | (with_reducible first | exact HB.out | apply below_alloc | apply pw_below_drewN | apply below_drew1 | refine below_set ?_ GE101.out | refine below_set ?_ GE109.out) | exact HB.out)⟩⟩
                           ·replace c55 := Bool.eq_false_iff.mpr c55
                            subst c55
                            have H1 : (some 3) = some r := by rw [if_neg (show ¬ (false = true) by decide)] at H; exact H
                            clear H
                            have H := H1
                            clear H1
                            obtain rfl := Option.some.inj H
                            have hnb60 := NB109_101.out
                            have hnc60 := NB101_109.out
                            have hcz61_0 : wr.cell? ⟨gb109, 0, none⟩ = some (.int .i64 ((rd_T87 l0_3 x5_6).f0)) := (blk_cell BK109.out 0).trans rfl
                            have hcz61_1 : wr.cell? ⟨gb109, 1, none⟩ = some (.slice A108_1 ((rd_T87 l0_3 x5_6).f1).length c108_1) := (blk_cell BK109.out 1).trans rfl
                            have hfz61_0 := blk_frozen BK109.out 0
                            have hfz61_1 := blk_frozen BK109.out 1
                            try go_wp2
                            have n0_ := Aside0.mk (blk_drew BK101.out)
                            have n1_ := Aside0.mk (blk_drew BK109.out)
                            have n2_ := Aside0.mk (below_drew1 HB.out)
                            clear BK101
                            clear BK109
                            clear HB
                            have BK101 := n0_
                            have BK109 := n1_
                            have HB := n2_
                            clear n0_ n1_ n2_
                            have p110 : 0 ≤ (x7_8 : Int) := of_decide_eq_true (by first | (with_reducible assumption) | assumption)
                            have q110 : x7_8 < (((rd_T87 l0_3 x5_6).f1).length : Int) := of_decide_eq_true (by first | (with_reducible assumption) | assumption)
                            obtain ⟨ad110, e110, hx110_0⟩ := Kd.at_int HR108_1.out x7_8 p110 q110
                            have hw110_0 := hx110_0
                            cases e110
                            replace hx110_0 := (HB.out.cell (World.block_lt_of_cell? w _ hx110_0)).trans hx110_0
                            replace p110 := eq_true p110
                            replace q110 := eq_true q110
                            refine start_ (n := 8) (S := fun w' => w'.cell? ⟨gb101, 0, none⟩ = some (.slice A0_0 l0_0.length c0_0) ∧ w'.cell? ⟨gb101, 1, none⟩ = some (.slice A0_1 l0_1.length c0_1) ∧ w'.cell? ⟨gb101, 2, none⟩ = some (.int .i64 a0_2) ∧ w'.cell? ⟨gb101, 3, none⟩ = some (.slice (some ad108) l0_3.length c0_3) ∧ w'.cell? ⟨gb109, 0, none⟩ = some (.int .i64 ((rd_T87 l0_3 x5_6).f0)) ∧ w'.cell? ⟨gb109, 1, none⟩ = some (.slice (some ad110) ((rd_T87 l0_3 x5_6).f1).length c108_1) ∧ w'.cell? (ad110.add (x7_8).toNat) = some (.int .i64 (rd ((rd_T87 l0_3 x5_6).f1) x7_8))) (ds := []) #[false, false, false, false, false, false, false, false] (by kernel_rfl) rfl rfl ⟨(blk_cell BK101.out 0).trans rfl, (blk_cell BK101.out 1).trans rfl, (blk_cell BK101.out 2).trans rfl, (blk_cell BK101.out 3).trans rfl, (blk_cell BK109.out 0).trans rfl, (blk_cell BK109.out 1).trans rfl, ((HB.out.cell (World.block_lt_of_cell? w _ hw110_0)).trans hw110_0)⟩ (fun hHeld => ?_); refine with_tabW wickerref02_Check.tab26 wickerref02_Check.bits26 (fun HT_ HW_ => ?_)
                            generalize wr.drew = w62 at BK101 BK109 HB hx110_0 hHeld ⊢
                            refine pure_ (i := 1) (N := some 109) (v := ?_) (a' := ?_) #[false, true, false, false, false, false, false, false] rfl rfl (any_of HT_.out (by kernel_rfl)) (fun _ _ _ h => h) (Or.inl ⟨by rfl, ?_⟩) ?_ ?_
                            rotate_left
                            ·intro w'
                             go_simp
                             with_reducible rfl
                            rotate_left
                            ·simp only [Act.put, List.setIfInBounds_toArray, List.set_cons_zero, List.set_cons_succ, i64_w, i32_w]
                             rfl
                            refine pure_ (i := 3) (N := some 111) (v := ?_) (a' := ?_) #[false, true, false, true, false, false, false, false] rfl rfl (any_of HT_.out (by kernel_rfl)) (fun _ _ _ h => h) (Or.inl ⟨by rfl, ?_⟩) ?_ ?_
                            rotate_left
                            ·intro w'
                             go_simp
                             with_reducible rfl
                            rotate_left
                            ·simp only [Act.put, List.setIfInBounds_toArray, List.set_cons_zero, List.set_cons_succ, i64_w, i32_w]
                             rfl
                            refine take_ (i := 0) (N := some 108) (v := ?_) (a' := ?_) #[true, true, false, true, false, false, false, false] rfl rfl (take_ofW HT_.out HW_.out (by kernel_rfl)) (fun _ _ _ h => h) (Or.inl ⟨by rfl, ?_⟩) hHeld ?_ ?_
                            rotate_left
                            ·rintro w' ⟨s0, s1, s2, s3, s4, s5, s6⟩
                             go_simp
                             with_reducible rfl
                            rotate_left
                            ·simp only [Act.put, List.setIfInBounds_toArray, List.set_cons_zero, List.set_cons_succ, i64_w, i32_w]
                             rfl
                            refine take_ (i := 2) (N := some 110) (v := ?_) (a' := ?_) #[true, true, true, true, false, false, false, false] rfl rfl (take_ofW HT_.out HW_.out (by kernel_rfl)) (fun _ _ _ h => h) (Or.inl ⟨by rfl, ?_⟩) hHeld ?_ ?_
                            rotate_left
                            ·rintro w' ⟨s0, s1, s2, s3, s4, s5, s6⟩
                             go_simp
                             with_reducible rfl
                            rotate_left
                            ·simp only [Act.put, List.setIfInBounds_toArray, List.set_cons_zero, List.set_cons_succ, i64_w, i32_w]
                             rfl
                            refine pure_ (i := 4) (N := some 112) (v := ?_) (a' := ?_) #[true, true, true, true, true, false, false, false] rfl rfl (any_of HT_.out (by kernel_rfl)) (fun _ _ _ h => h) (Or.inl ⟨by rfl, ?_⟩) ?_ ?_
                            rotate_left
                            ·intro w'
                             go_simp
                             with_reducible rfl
                            rotate_left
                            ·simp only [Act.put, List.setIfInBounds_toArray, List.set_cons_zero, List.set_cons_succ, i64_w, i32_w]
                             rfl
                            refine take_ (i := 5) (N := some 113) (v := ?_) (a' := ?_) #[true, true, true, true, true, true, false, false] rfl rfl (take_ofW HT_.out HW_.out (by kernel_rfl)) (fun _ _ _ h => h) (Or.inl ⟨by rfl, ?_⟩) hHeld ?_ ?_
                            rotate_left
                            ·rintro w' ⟨s0, s1, s2, s3, s4, s5, s6⟩
                             go_simp
                             with_reducible rfl
                            rotate_left
                            ·simp only [Act.put, List.setIfInBounds_toArray, List.set_cons_zero, List.set_cons_succ, i64_w, i32_w]
                             rfl
                            refine one_ (i := 6) (N := some 114) #[true, true, true, true, true, true, true, false] rfl rfl (one_of HT_.out (by kernel_rfl)) (by decide) (fun K hK => ?_)
                            refine goes_ Tryd.func104 (by kernel_rfl) rfl #[.agg #[.slice A0_0 l0_0.length c0_0, .slice A0_1 l0_1.length c0_1, .int .i64 a0_2, .slice (some ad108) l0_3.length c0_3], .int .i64 (rd ((rd_T87 l0_3 x5_6).f1) x7_8)] (by rfl) rfl rfl (by (try simp only [List.map_toArray, List.map_cons, List.map_nil]); first | done | rfl | (simp only [List.length_drop, List.length_take]; rfl)) ?_
                            with_reducible refine (wickerref02_Has.calls _ _ l0_0 _ _ l0_1 a0_2 _ _ l0_3 (rd ((rd_T87 l0_3 x5_6).f1) x7_8) false _ ?side1 ?side2 ?side3 ?side4 ?side5 ?side6 A54.out).mono ?_
                            (case side1 => repeat (first | exact (Kd.C_below HR0_0.out HB.out) | (with_reducible refine Kd.C_alloc ?_ _) | (with_reducible refine Kd.C_drewN ?_ _) | (with_reducible refine Kd.C_drew ?_)))
                            (case side2 => exact HC0_0.out)
                            (case side3 => repeat (first | exact (Kd.C_below HR0_1.out HB.out) | (with_reducible refine Kd.C_alloc ?_ _) | (with_reducible refine Kd.C_drewN ?_ _) | (with_reducible refine Kd.C_drew ?_)))
                            (case side4 => exact HC0_1.out)
                            (case side5 => repeat (first | exact (Kd.C_below HR0_3.out HB.out) | (with_reducible refine Kd.C_alloc ?_ _) | (with_reducible refine Kd.C_drewN ?_ _) | (with_reducible refine Kd.C_drew ?_)))
                            (case side6 => exact HC0_3.out)
                            rintro e w63 ⟨rfl, hb⟩
                            refine ⟨_, rfl, ?_⟩
                            have n0_ := Aside0.mk (blk_below (g := gb101) (o := .cells #[.slice A0_0 l0_0.length c0_0, .slice A0_1 l0_1.length c0_1, .int .i64 a0_2, .slice (some ad108) l0_3.length c0_3] 63 (0, 0)) (by (with_reducible repeat (first | refine blk_drewN ?_ _ | refine blk_drew ?_ | refine blk_alloc ?_ _)); exact BK101.out) hb)
                            have n1_ := Aside0.mk (blk_below (g := gb109) (o := .cells #[.int .i64 ((rd_T87 l0_3 x5_6).f0), .slice (some ad110) ((rd_T87 l0_3 x5_6).f1).length c108_1] 87 (0, 0)) (by (with_reducible repeat (first | refine blk_drewN ?_ _ | refine blk_drew ?_ | refine blk_alloc ?_ _)); exact BK109.out) hb)
                            have n2_ := Aside0.mk (below_step (by repeat (first | (with_reducible first | exact HB.out | apply below_alloc | apply pw_below_drewN | apply below_drew1 | refine below_set ?_ GE101.out | refine below_set ?_ GE109.out) | exact HB.out)) hb)
                            clear BK101
                            clear BK109
                            clear HB
                            have BK101 := n0_
                            have BK109 := n1_
                            have HB := n2_
                            clear n0_ n1_ n2_
                            (try clear hb)
                            (try clear hb2)
                            (try clear hk)
                            (try clear hi)
                            refine hK.out _ _ ⟨(blk_cell BK101.out 0).trans rfl, (blk_cell BK101.out 1).trans rfl, (blk_cell BK101.out 2).trans rfl, (blk_cell BK101.out 3).trans rfl, (blk_cell BK109.out 0).trans rfl, (blk_cell BK109.out 1).trans rfl, ((HB.out.cell (World.block_lt_of_cell? w _ hw110_0)).trans hw110_0)⟩ (fun hHeld => ?_)
                            clear hK K
                            refine norm_ (a' := ?_) ?_ ?_
                            rotate_left
                            ·show Act.put _ (some 114) _ = _
                             simp only [Act.put, List.setIfInBounds_toArray, List.set_cons_zero, List.set_cons_succ, i64_w, i32_w]
                             rfl
                            refine pure_ (i := 7) (N := some 115) (v := ?_) (a' := ?_) #[true, true, true, true, true, true, true, true] rfl rfl (any_of HT_.out (by kernel_rfl)) (fun _ _ _ h => h) (Or.inl ⟨by rfl, ?_⟩) ?_ ?_
                            rotate_left
                            ·intro w'
                             go_simp
                             with_reducible rfl
                            rotate_left
                            ·simp only [Act.put, List.setIfInBounds_toArray, List.set_cons_zero, List.set_cons_succ, i64_w, i32_w]
                             rfl
                            refine done_ (done_of HT_.out (by kernel_rfl)) ?_
                            try go_wp2
                            go_ret
                            exact ⟨by first | rfl | (simp [errW_none, errW_some] <;> rfl) | (simp [*, errW_none, errW_some] <;> rfl), by repeat (first | (with_reducible first | exact HB.out | apply below_alloc | apply pw_below_drewN | apply below_drew1 | refine below_set ?_ GE101.out | refine below_set ?_ GE109.out) | exact HB.out)⟩
                          ·rw [if_neg c53] at H
                           exact absurd H (by simp)
                         ·rw [if_neg c52] at H
                          have c52b0 : decide (x7_8 < (((rd_T87 l0_3 x5_6).f1).length : Int)) = false := decide_eq_false c52
                          clear c52
                          by_cases c64 : (((rd_T87 l0_3 x5_6).f1).length : Int) > 64
                          ·rw [if_pos c64] at H
                           have c64b0 : decide (64 < (((rd_T87 l0_3 x5_6).f1).length : Int)) = true := decide_eq_true c64
                           have c64b1 : decide (64 < ((rd_T87 l0_3 x5_6).f1).length) = true := decide_eq_true (by omega)
                           clear c64
                           obtain rfl := Option.some.inj H
                           have hnb65 := NB109_101.out
                           have hnc65 := NB101_109.out
                           have hcz66_0 : wr.cell? ⟨gb109, 0, none⟩ = some (.int .i64 ((rd_T87 l0_3 x5_6).f0)) := (blk_cell BK109.out 0).trans rfl
                           have hcz66_1 : wr.cell? ⟨gb109, 1, none⟩ = some (.slice A108_1 ((rd_T87 l0_3 x5_6).f1).length c108_1) := (blk_cell BK109.out 1).trans rfl
                           have hfz66_0 := blk_frozen BK109.out 0
                           have hfz66_1 := blk_frozen BK109.out 1
                           go_wp2
                           go_ret
                           exact ⟨by first | rfl | (simp [errW_none, errW_some] <;> rfl) | (simp [*, errW_none, errW_some] <;> rfl), by repeat (first | (with_reducible first | exact HB.out | apply below_alloc | apply pw_below_drewN | apply below_drew1 | refine below_set ?_ GE101.out | refine below_set ?_ GE109.out) | exact HB.out)⟩
                          ·rw [if_neg c64] at H
                           have c64b0 : decide (64 < (((rd_T87 l0_3 x5_6).f1).length : Int)) = false := decide_eq_false c64
                           have c64b1 : decide (64 < ((rd_T87 l0_3 x5_6).f1).length) = false := decide_eq_false (by omega)
                           clear c64
                           have H' := Aside0.mk H
                           clear H
                           have hnb67 := NB109_101.out
                           have hnc67 := NB101_109.out
                           have hcz68_0 : wr.cell? ⟨gb109, 0, none⟩ = some (.int .i64 ((rd_T87 l0_3 x5_6).f0)) := (blk_cell BK109.out 0).trans rfl
                           have hcz68_1 : wr.cell? ⟨gb109, 1, none⟩ = some (.slice A108_1 ((rd_T87 l0_3 x5_6).f1).length c108_1) := (blk_cell BK109.out 1).trans rfl
                           have hfz68_0 := blk_frozen BK109.out 0
                           have hfz68_1 := blk_frozen BK109.out 1
                           go_wp2
                           go_roundg k8
                           case measure => have := HJ1.out; have := HK2.out; have := HK3.out; have := HJ24.out; have := HJ32.out; have := HK6.out; have := HJ39.out; have := HK8.out; omega
                           case rel => exact ⟨(wrap64 (x5_6 + 1)), (by first | rfl | (simp; done) | (simp [*]; done)), H', ⟨by have := HJ1.out; have := HK2.out; have := HK3.out; have := HJ24.out; have := HJ32.out; have := HK6.out; have := HJ39.out; have := HK8.out; omega⟩, ⟨by (with_reducible repeat (first | refine blk_drewN ?_ _ | refine blk_drew ?_ | refine blk_alloc ?_ _)); exact BK101.out⟩, ⟨by repeat (first | (with_reducible first | exact HB.out | apply below_alloc | apply pw_below_drewN | apply below_drew1 | refine below_set ?_ GE101.out | refine below_set ?_ GE109.out) | exact HB.out)⟩⟩
                   ·rw [if_neg c39] at H
                    exact absurd H (by simp)
                  ·rw [if_neg c38] at H
                   have c38b0 : decide (x5_6 < (l0_3.length : Int)) = false := decide_eq_false c38
                   clear c38
                   have H' := Aside0.mk H
                   clear H
                   have hcz69_0 : wr.cell? ⟨gb101, 0, none⟩ = some (.slice A0_0 l0_0.length c0_0) := (blk_cell BK101.out 0).trans rfl
                   have hcz69_1 : wr.cell? ⟨gb101, 1, none⟩ = some (.slice A0_1 l0_1.length c0_1) := (blk_cell BK101.out 1).trans rfl
                   have hcz69_2 : wr.cell? ⟨gb101, 2, none⟩ = some (.int .i64 a0_2) := (blk_cell BK101.out 2).trans rfl
                   have hcz69_3 : wr.cell? ⟨gb101, 3, none⟩ = some (.slice A0_3 l0_3.length c0_3) := (blk_cell BK101.out 3).trans rfl
                   have hfz69_0 := blk_frozen BK101.out 0
                   have hfz69_1 := blk_frozen BK101.out 1
                   have hfz69_2 := blk_frozen BK101.out 2
                   have hfz69_3 := blk_frozen BK101.out 3
                   go_wp2
                   go_loopg [8] k6 (fun kq v8 w' => ∃ (x8_7 : Int), v8 = .int .i64 x8_7 ∧ Aside0 (wickerref02_Check.l4 kq x8_7 l0_0 l0_1 a0_2 l0_3 = some r) ∧ Aside0 (kq ≤ k6) ∧ Aside0 (w'.heap[gb101]? = some (.cells #[(.slice A0_0 l0_0.length c0_0), (.slice A0_1 l0_1.length c0_1), .int .i64 a0_2, (.slice A0_3 l0_3.length c0_3)] 63 (0, 0))) ∧ Aside0 (Below w.heap.size w w'))
                   case atStart => exact ⟨(0), (by first | rfl | (simp; done) | (simp [*]; done)), H', ⟨Nat.le_refl _⟩, ⟨by (with_reducible repeat (first | refine blk_drewN ?_ _ | refine blk_drew ?_ | refine blk_alloc ?_ _)); exact BK101.out⟩, ⟨by repeat (first | (with_reducible first | exact HB.out | apply below_alloc | apply pw_below_drewN | apply below_drew1 | refine below_set ?_ GE101.out) | exact HB.out)⟩⟩
                   case round =>
                    clear H'
                    try clear c1
                    try clear p1
                    try clear q1
                    try clear hx1
                    try clear c2
                    try clear p2
                    try clear c3
                    try clear c4
                    try clear c4b0
                    try clear c4b1
                    try clear c5
                    try clear c6
                    try clear c6b0
                    try clear c6b1
                    try clear p6
                    try clear c8
                    try clear c8b0
                    try clear c8b1
                    try clear c10
                    try clear p10
                    try clear q10
                    try clear hx10
                    try clear c11
                    try clear p11
                    try clear q11
                    try clear hx11
                    try clear c12
                    try clear c12b0
                    try clear c13
                    try clear c13b0
                    try clear c15
                    try clear c19
                    try clear c19b0
                    try clear c20
                    try clear c20b0
                    try clear c22
                    try clear c28
                    try clear c32
                    try clear c34
                    try clear c34b0
                    try clear c37
                    try clear c38
                    try clear c38b0
                    try clear c39
                    try clear c39b0
                    try clear c43
                    try clear c45
                    try clear c45b0
                    try clear c46
                    try clear c48
                    try clear c51
                    try clear c52
                    try clear c52b0
                    try clear c53
                    try clear c53b0
                    try clear c55
                    try clear c56
                    try clear c60
                    try clear c64
                    try clear c64b0
                    try clear c64b1
                    try clear p64
                    try clear c65
                    try clear c67
                    try clear hcz10_0
                    try clear hcz10_1
                    try clear hcz10_2
                    try clear hcz10_3
                    try clear hcz16_0
                    try clear hcz16_1
                    try clear hcz16_2
                    try clear hcz16_3
                    try clear hcz17_0
                    try clear hcz17_1
                    try clear hcz17_2
                    try clear hcz17_3
                    try clear hcz18_0
                    try clear hcz18_1
                    try clear hcz18_2
                    try clear hcz18_3
                    try clear hcz23_0
                    try clear hcz23_1
                    try clear hcz23_2
                    try clear hcz23_3
                    try clear hcz24_0
                    try clear hcz24_1
                    try clear hcz24_2
                    try clear hcz24_3
                    try clear hcz26_0
                    try clear hcz26_1
                    try clear hcz26_2
                    try clear hcz26_3
                    try clear hcz29_0
                    try clear hcz29_1
                    try clear hcz29_2
                    try clear hcz29_3
                    try clear hcz31_0
                    try clear hcz31_1
                    try clear hcz31_2
                    try clear hcz31_3
                    try clear hcz35_0
                    try clear hcz35_1
                    try clear hcz35_2
                    try clear hcz35_3
                    try clear hcz36_0
                    try clear hcz36_1
                    try clear hcz36_2
                    try clear hcz36_3
                    try clear hcz41_0
                    try clear hcz41_1
                    try clear hcz41_2
                    try clear hcz41_3
                    try clear hcz44_0
                    try clear hcz44_1
                    try clear hcz47_0
                    try clear hcz47_1
                    try clear hcz49_0
                    try clear hcz49_1
                    try clear hcz50_0
                    try clear hcz50_1
                    try clear hcz50_2
                    try clear hcz50_3
                    try clear hcz57_0
                    try clear hcz57_1
                    try clear hcz5_0
                    try clear hcz5_1
                    try clear hcz5_2
                    try clear hcz5_3
                    try clear hcz61_0
                    try clear hcz61_1
                    try clear hcz66_0
                    try clear hcz66_1
                    try clear hcz68_0
                    try clear hcz68_1
                    try clear hcz69_0
                    try clear hcz69_1
                    try clear hcz69_2
                    try clear hcz69_3
                    try clear hcz7_0
                    try clear hcz7_1
                    try clear hcz7_2
                    try clear hcz7_3
                    try clear hcz9_0
                    try clear hcz9_1
                    try clear hcz9_2
                    try clear hcz9_3
                    try clear hfz10_0
                    try clear hfz10_1
                    try clear hfz10_2
                    try clear hfz10_3
                    try clear hfz16_0
                    try clear hfz16_1
                    try clear hfz16_2
                    try clear hfz16_3
                    try clear hfz17_0
                    try clear hfz17_1
                    try clear hfz17_2
                    try clear hfz17_3
                    try clear hfz18_0
                    try clear hfz18_1
                    try clear hfz18_2
                    try clear hfz18_3
                    try clear hfz23_0
                    try clear hfz23_1
                    try clear hfz23_2
                    try clear hfz23_3
                    try clear hfz24_0
                    try clear hfz24_1
                    try clear hfz24_2
                    try clear hfz24_3
                    try clear hfz26_0
                    try clear hfz26_1
                    try clear hfz26_2
                    try clear hfz26_3
                    try clear hfz29_0
                    try clear hfz29_1
                    try clear hfz29_2
                    try clear hfz29_3
                    try clear hfz31_0
                    try clear hfz31_1
                    try clear hfz31_2
                    try clear hfz31_3
                    try clear hfz35_0
                    try clear hfz35_1
                    try clear hfz35_2
                    try clear hfz35_3
                    try clear hfz36_0
                    try clear hfz36_1
                    try clear hfz36_2
                    try clear hfz36_3
                    try clear hfz41_0
                    try clear hfz41_1
                    try clear hfz41_2
                    try clear hfz41_3
                    try clear hfz44_0
                    try clear hfz44_1
                    try clear hfz47_0
                    try clear hfz47_1
                    try clear hfz49_0
                    try clear hfz49_1
                    try clear hfz50_0
                    try clear hfz50_1
                    try clear hfz50_2
                    try clear hfz50_3
                    try clear hfz57_0
                    try clear hfz57_1
                    try clear hfz5_0
                    try clear hfz5_1
                    try clear hfz5_2
                    try clear hfz5_3
                    try clear hfz61_0
                    try clear hfz61_1
                    try clear hfz66_0
                    try clear hfz66_1
                    try clear hfz68_0
                    try clear hfz68_1
                    try clear hfz69_0
                    try clear hfz69_1
                    try clear hfz69_2
                    try clear hfz69_3
                    try clear hfz7_0
                    try clear hfz7_1
                    try clear hfz7_2
                    try clear hfz7_3
                    try clear hfz9_0
                    try clear hfz9_1
                    try clear hfz9_2
                    try clear hfz9_3
                    try clear hx102_0
                    try clear hx104_0
                    try clear hx108_0
                    try clear hx108_1
                    try clear hx110_0
                    try clear p1
                    try clear p10
                    try clear p102
                    try clear p104
                    try clear p108
                    try clear p110
                    try clear p2
                    try clear p6
                    try clear q1
                    try clear q10
                    try clear q102
                    try clear q104
                    try clear q108
                    try clear q110
                    obtain ⟨x8_7, rfl, HA, HK7, BK101, HB⟩ := hrel
                    cases gk with
                    | zero => exact absurd HA.out (by simp [wickerref02_Check.l4])
                    | succ k7 =>
                     have H := HA.out
                     clear HA
                     simp only [wickerref02_Check.l4] at H
                     by_cases c70 : x8_7 < (l0_3.length : Int)
                     ·rw [if_pos c70] at H
                      have c70b0 : decide (x8_7 < (l0_3.length : Int)) = true := decide_eq_true c70
                      clear c70
                      by_cases c71 : 0 ≤ x8_7
                      ·rw [if_pos c71] at H
                       have c71b0 : decide (0 ≤ x8_7) = true := decide_eq_true c71
                       clear c71
                       replace H := Option.bind_eq_some_iff.mp H
                       obtain ⟨t113, A720, H⟩ := H
                       replace H : (if t113 < x8_7 then (some 2) else (wickerref02_Check.l4 k7 (wrap64 (x8_7 + 1)) l0_0 l0_1 a0_2 l0_3)) = some r := H
                       have A72 := Aside0.mk A720
                       clear A720
                       by_cases c73 : t113 < x8_7
                       ·rw [if_pos c73] at H
                        have c73b0 : decide (t113 < x8_7) = true := decide_eq_true c73
                        clear c73
                        obtain rfl := Option.some.inj H
                        have hcz74_0 : wr.cell? ⟨gb101, 0, none⟩ = some (.slice A0_0 l0_0.length c0_0) := (blk_cell BK101.out 0).trans rfl
                        have hcz74_1 : wr.cell? ⟨gb101, 1, none⟩ = some (.slice A0_1 l0_1.length c0_1) := (blk_cell BK101.out 1).trans rfl
                        have hcz74_2 : wr.cell? ⟨gb101, 2, none⟩ = some (.int .i64 a0_2) := (blk_cell BK101.out 2).trans rfl
                        have hcz74_3 : wr.cell? ⟨gb101, 3, none⟩ = some (.slice A0_3 l0_3.length c0_3) := (blk_cell BK101.out 3).trans rfl
                        have hfz74_0 := blk_frozen BK101.out 0
                        have hfz74_1 := blk_frozen BK101.out 1
                        have hfz74_2 := blk_frozen BK101.out 2
                        have hfz74_3 := blk_frozen BK101.out 3
                        try go_wp2
                        have n0_ := Aside0.mk (blk_drew BK101.out)
                        have n1_ := Aside0.mk (below_drew1 HB.out)
                        clear BK101
                        clear HB
                        have BK101 := n0_
                        have HB := n1_
                        clear n0_ n1_
                        have p112 : 0 ≤ (x8_7 : Int) := of_decide_eq_true (by first | (with_reducible assumption) | assumption)
                        have q112 : x8_7 < (l0_3.length : Int) := of_decide_eq_true (by first | (with_reducible assumption) | assumption)
                        obtain ⟨ad112, A112_1, c112_1, e112, hx112_0, hx112_1, hl112_1, hi112_1⟩ := at_T87 HR0_3.out x8_7 p112 q112
                        have hw112_1 := hx112_1
                        have hw112_0 := hx112_0
                        cases e112
                        replace hx112_0 := (HB.out.cell (World.block_lt_of_cell? w _ hx112_0)).trans hx112_0
                        replace hx112_1 := (HB.out.cell (World.block_lt_of_cell? w _ hx112_1)).trans hx112_1
                        have HR112_1 := Aside0.mk hi112_1
                        have HC112_1 := Aside0.mk hl112_1
                        clear hi112_1 hl112_1
                        replace p112 := eq_true p112
                        replace q112 := eq_true q112
                        refine start_ (n := 10) (S := fun w' => w'.cell? ⟨gb101, 0, none⟩ = some (.slice A0_0 l0_0.length c0_0) ∧ w'.cell? ⟨gb101, 1, none⟩ = some (.slice A0_1 l0_1.length c0_1) ∧ w'.cell? ⟨gb101, 2, none⟩ = some (.int .i64 a0_2) ∧ w'.cell? ⟨gb101, 3, none⟩ = some (.slice (some ad112) l0_3.length c0_3) ∧ w'.cell? (ad112.add ((x8_7).toNat * 2)) = some (.int .i64 ((rd_T87 l0_3 x8_7).f0)) ∧ w'.cell? ⟨(ad112.add ((x8_7).toNat * 2)).block, (ad112.add ((x8_7).toNat * 2)).off + 1, none⟩ = some (.slice A112_1 ((rd_T87 l0_3 x8_7).f1).length c112_1)) (ds := []) #[false, false, false, false, false, false, false, false, false, false] (by kernel_rfl) rfl rfl ⟨(blk_cell BK101.out 0).trans rfl, (blk_cell BK101.out 1).trans rfl, (blk_cell BK101.out 2).trans rfl, (blk_cell BK101.out 3).trans rfl, ((HB.out.cell (World.block_lt_of_cell? w _ hw112_0)).trans hw112_0), ((HB.out.cell (World.block_lt_of_cell? w _ hw112_1)).trans hw112_1)⟩ (fun hHeld => ?_); refine with_tabW wickerref02_Check.tab33 wickerref02_Check.bits33 (fun HT_ HW_ => ?_)
                        generalize wr.drew = w75 at BK101 HB HR112_1 hx112_0 hx112_1 hHeld ⊢
                        refine pure_ (i := 0) (N := some 127) (v := ?_) (a' := ?_) #[true, false, false, false, false, false, false, false, false, false] rfl rfl (any_of HT_.out (by kernel_rfl)) (fun _ _ _ h => h) (Or.inl ⟨by rfl, ?_⟩) ?_ ?_
                        rotate_left
                        ·intro w'
                         go_simp
                         with_reducible rfl
                        rotate_left
                        ·simp only [Act.put, List.setIfInBounds_toArray, List.set_cons_zero, List.set_cons_succ, i64_w, i32_w]
                         rfl
                        refine pure_ (i := 2) (N := some 129) (v := ?_) (a' := ?_) #[true, false, true, false, false, false, false, false, false, false] rfl rfl (any_of HT_.out (by kernel_rfl)) (fun _ _ _ h => h) (Or.inl ⟨by rfl, ?_⟩) ?_ ?_
                        rotate_left
                        ·intro w'
                         go_simp
                         with_reducible rfl
                        rotate_left
                        ·simp only [Act.put, List.setIfInBounds_toArray, List.set_cons_zero, List.set_cons_succ, i64_w, i32_w]
                         rfl
                        refine pure_ (i := 4) (N := some 131) (v := ?_) (a' := ?_) #[true, false, true, false, true, false, false, false, false, false] rfl rfl (any_of HT_.out (by kernel_rfl)) (fun _ _ _ h => h) (Or.inl ⟨by rfl, ?_⟩) ?_ ?_
                        rotate_left
                        ·intro w'
                         go_simp
                         with_reducible rfl
                        rotate_left
                        ·simp only [Act.put, List.setIfInBounds_toArray, List.set_cons_zero, List.set_cons_succ, i64_w, i32_w]
                         rfl
                        refine pure_ (i := 8) (N := some 135) (v := ?_) (a' := ?_) #[true, false, true, false, true, false, false, false, true, false] rfl rfl (any_of HT_.out (by kernel_rfl)) (fun _ _ _ h => h) (Or.inl ⟨by rfl, ?_⟩) ?_ ?_
                        rotate_left
                        ·intro w'
                         go_simp
                         with_reducible rfl
                        rotate_left
                        ·simp only [Act.put, List.setIfInBounds_toArray, List.set_cons_zero, List.set_cons_succ, i64_w, i32_w]
                         rfl
                        refine take_ (i := 1) (N := some 128) (v := ?_) (a' := ?_) #[true, true, true, false, true, false, false, false, true, false] rfl rfl (take_ofW HT_.out HW_.out (by kernel_rfl)) (fun _ _ _ h => h) (Or.inl ⟨by rfl, ?_⟩) hHeld ?_ ?_
                        rotate_left
                        ·rintro w' ⟨s0, s1, s2, s3, s4, s5⟩
                         go_simp
                         with_reducible rfl
                        rotate_left
                        ·simp only [Act.put, List.setIfInBounds_toArray, List.set_cons_zero, List.set_cons_succ, i64_w, i32_w]
                         rfl
                        refine take_ (i := 3) (N := some 130) (v := ?_) (a' := ?_) #[true, true, true, true, true, false, false, false, true, false] rfl rfl (take_ofW HT_.out HW_.out (by kernel_rfl)) (fun _ _ _ h => h) (Or.inl ⟨by rfl, ?_⟩) hHeld ?_ ?_
                        rotate_left
                        ·rintro w' ⟨s0, s1, s2, s3, s4, s5⟩
                         go_simp
                         with_reducible rfl
                        rotate_left
                        ·simp only [Act.put, List.setIfInBounds_toArray, List.set_cons_zero, List.set_cons_succ, i64_w, i32_w]
                         rfl
                        refine pure_ (i := 5) (N := some 132) (v := ?_) (a' := ?_) #[true, true, true, true, true, true, false, false, true, false] rfl rfl (any_of HT_.out (by kernel_rfl)) (fun _ _ _ h => h) (Or.inl ⟨by rfl, ?_⟩) ?_ ?_
                        rotate_left
                        ·intro w'
                         go_simp
                         with_reducible rfl
                        rotate_left
                        ·simp only [Act.put, List.setIfInBounds_toArray, List.set_cons_zero, List.set_cons_succ, i64_w, i32_w]
                         rfl
                        refine take_ (i := 6) (N := some 133) (v := ?_) (a' := ?_) #[true, true, true, true, true, true, true, false, true, false] rfl rfl (take_ofW HT_.out HW_.out (by kernel_rfl)) (fun _ _ _ h => h) (Or.inl ⟨by rfl, ?_⟩) hHeld ?_ ?_
                        rotate_left
                        ·rintro w' ⟨s0, s1, s2, s3, s4, s5⟩
                         go_simp
                         with_reducible rfl
                        rotate_left
                        ·simp only [Act.put, List.setIfInBounds_toArray, List.set_cons_zero, List.set_cons_succ, i64_w, i32_w]
                         rfl
                        refine one_ (i := 7) (N := some 134) #[true, true, true, true, true, true, true, true, true, false] rfl rfl (one_of HT_.out (by kernel_rfl)) (by decide) (fun K hK => ?_)
                        refine goes_ Tryd.func107 (by kernel_rfl) rfl #[.slice (some ad112) l0_3.length c0_3, .agg #[.int .i64 ((rd_T87 l0_3 x8_7).f0), .slice A112_1 ((rd_T87 l0_3 x8_7).f1).length c112_1]] (by rfl) rfl rfl (by (try simp only [List.map_toArray, List.map_cons, List.map_nil]); first | done | rfl | (simp only [List.length_drop, List.length_take]; rfl)) ?_
                        with_reducible refine (wickerref02_Find.calls k7 _ _ l0_3 ((rd_T87 l0_3 x8_7).f0) _ _ ((rd_T87 l0_3 x8_7).f1) t113 _ ?side1 ?side2 ?side3 ?side4 A72.out).mono ?_
                        (case side1 => repeat (first | exact (Kd.C_below HR0_3.out HB.out) | (with_reducible refine Kd.C_alloc ?_ _) | (with_reducible refine Kd.C_drewN ?_ _) | (with_reducible refine Kd.C_drew ?_)))
                        (case side2 => exact HC0_3.out)
                        (case side3 => repeat (first | exact (Kd.C_below HR112_1.out HB.out) | (with_reducible refine Kd.C_alloc ?_ _) | (with_reducible refine Kd.C_drewN ?_ _) | (with_reducible refine Kd.C_drew ?_)))
                        (case side4 => exact HC112_1.out)
                        rintro e w76 ⟨rfl, hb⟩
                        refine ⟨_, rfl, ?_⟩
                        have n0_ := Aside0.mk (blk_below (g := gb101) (o := .cells #[.slice A0_0 l0_0.length c0_0, .slice A0_1 l0_1.length c0_1, .int .i64 a0_2, .slice (some ad112) l0_3.length c0_3] 63 (0, 0)) (by (with_reducible repeat (first | refine blk_drewN ?_ _ | refine blk_drew ?_ | refine blk_alloc ?_ _)); exact BK101.out) hb)
                        have n1_ := Aside0.mk (below_step (by repeat (first | (with_reducible first | exact HB.out | apply below_alloc | apply pw_below_drewN | apply below_drew1 | refine below_set ?_ GE101.out) | exact HB.out)) hb)
                        clear BK101
                        clear HB
                        have BK101 := n0_
                        have HB := n1_
                        clear n0_ n1_
                        (try clear hb)
                        (try clear hb2)
                        (try clear hk)
                        (try clear hi)
                        refine hK.out _ _ ⟨(blk_cell BK101.out 0).trans rfl, (blk_cell BK101.out 1).trans rfl, (blk_cell BK101.out 2).trans rfl, (blk_cell BK101.out 3).trans rfl, ((HB.out.cell (World.block_lt_of_cell? w _ hw112_0)).trans hw112_0), ((HB.out.cell (World.block_lt_of_cell? w _ hw112_1)).trans hw112_1)⟩ (fun hHeld => ?_)
                        clear hK K
                        refine norm_ (a' := ?_) ?_ ?_
                        rotate_left
                        ·show Act.put _ (some 134) _ = _
                         simp only [Act.put, List.setIfInBounds_toArray, List.set_cons_zero, List.set_cons_succ, i64_w, i32_w]
                         rfl
                        refine pure_ (i := 9) (N := some 136) (v := ?_) (a' := ?_) #[true, true, true, true, true, true, true, true, true, true] rfl rfl (any_of HT_.out (by kernel_rfl)) (fun _ _ _ h => h) (Or.inl ⟨by rfl, ?_⟩) ?_ ?_
                        rotate_left
                        ·intro w'
                         go_simp
                         with_reducible rfl
                        rotate_left
                        ·simp only [Act.put, List.setIfInBounds_toArray, List.set_cons_zero, List.set_cons_succ, i64_w, i32_w]
                         rfl
                        refine done_ (done_of HT_.out (by kernel_rfl)) ?_
                        try go_wp2
                        go_ret
                        exact ⟨by first | rfl | (simp [errW_none, errW_some] <;> rfl) | (simp [*, errW_none, errW_some] <;> rfl), by repeat (first | (with_reducible first | exact HB.out | apply below_alloc | apply pw_below_drewN | apply below_drew1 | refine below_set ?_ GE101.out) | exact HB.out)⟩
                       ·rw [if_neg c73] at H
                        have c73b0 : decide (t113 < x8_7) = false := decide_eq_false c73
                        clear c73
                        have H' := Aside0.mk H
                        clear H
                        have hcz77_0 : wr.cell? ⟨gb101, 0, none⟩ = some (.slice A0_0 l0_0.length c0_0) := (blk_cell BK101.out 0).trans rfl
                        have hcz77_1 : wr.cell? ⟨gb101, 1, none⟩ = some (.slice A0_1 l0_1.length c0_1) := (blk_cell BK101.out 1).trans rfl
                        have hcz77_2 : wr.cell? ⟨gb101, 2, none⟩ = some (.int .i64 a0_2) := (blk_cell BK101.out 2).trans rfl
                        have hcz77_3 : wr.cell? ⟨gb101, 3, none⟩ = some (.slice A0_3 l0_3.length c0_3) := (blk_cell BK101.out 3).trans rfl
                        have hfz77_0 := blk_frozen BK101.out 0
                        have hfz77_1 := blk_frozen BK101.out 1
                        have hfz77_2 := blk_frozen BK101.out 2
                        have hfz77_3 := blk_frozen BK101.out 3
                        try go_wp2
                        have n0_ := Aside0.mk (blk_drew BK101.out)
                        have n1_ := Aside0.mk (below_drew1 HB.out)
                        clear BK101
                        clear HB
                        have BK101 := n0_
                        have HB := n1_
                        clear n0_ n1_
                        have p112 : 0 ≤ (x8_7 : Int) := of_decide_eq_true (by first | (with_reducible assumption) | assumption)
                        have q112 : x8_7 < (l0_3.length : Int) := of_decide_eq_true (by first | (with_reducible assumption) | assumption)
                        obtain ⟨ad112, A112_1, c112_1, e112, hx112_0, hx112_1, hl112_1, hi112_1⟩ := at_T87 HR0_3.out x8_7 p112 q112
                        have hw112_1 := hx112_1
                        have hw112_0 := hx112_0
                        cases e112
                        replace hx112_0 := (HB.out.cell (World.block_lt_of_cell? w _ hx112_0)).trans hx112_0
                        replace hx112_1 := (HB.out.cell (World.block_lt_of_cell? w _ hx112_1)).trans hx112_1
                        have HR112_1 := Aside0.mk hi112_1
                        have HC112_1 := Aside0.mk hl112_1
                        clear hi112_1 hl112_1
                        replace p112 := eq_true p112
                        replace q112 := eq_true q112
                        refine start_ (n := 10) (S := fun w' => w'.cell? ⟨gb101, 0, none⟩ = some (.slice A0_0 l0_0.length c0_0) ∧ w'.cell? ⟨gb101, 1, none⟩ = some (.slice A0_1 l0_1.length c0_1) ∧ w'.cell? ⟨gb101, 2, none⟩ = some (.int .i64 a0_2) ∧ w'.cell? ⟨gb101, 3, none⟩ = some (.slice (some ad112) l0_3.length c0_3) ∧ w'.cell? (ad112.add ((x8_7).toNat * 2)) = some (.int .i64 ((rd_T87 l0_3 x8_7).f0)) ∧ w'.cell? ⟨(ad112.add ((x8_7).toNat * 2)).block, (ad112.add ((x8_7).toNat * 2)).off + 1, none⟩ = some (.slice A112_1 ((rd_T87 l0_3 x8_7).f1).length c112_1)) (ds := []) #[false, false, false, false, false, false, false, false, false, false] (by kernel_rfl) rfl rfl ⟨(blk_cell BK101.out 0).trans rfl, (blk_cell BK101.out 1).trans rfl, (blk_cell BK101.out 2).trans rfl, (blk_cell BK101.out 3).trans rfl, ((HB.out.cell (World.block_lt_of_cell? w _ hw112_0)).trans hw112_0), ((HB.out.cell (World.block_lt_of_cell? w _ hw112_1)).trans hw112_1)⟩ (fun hHeld => ?_); refine with_tabW wickerref02_Check.tab33 wickerref02_Check.bits33 (fun HT_ HW_ => ?_)
                        generalize wr.drew = w78 at BK101 HB HR112_1 hx112_0 hx112_1 hHeld ⊢
                        refine pure_ (i := 0) (N := some 127) (v := ?_) (a' := ?_) #[true, false, false, false, false, false, false, false, false, false] rfl rfl (any_of HT_.out (by kernel_rfl)) (fun _ _ _ h => h) (Or.inl ⟨by rfl, ?_⟩) ?_ ?_
                        rotate_left
                        ·intro w'
                         go_simp
                         with_reducible rfl
                        rotate_left
                        ·simp only [Act.put, List.setIfInBounds_toArray, List.set_cons_zero, List.set_cons_succ, i64_w, i32_w]
                         rfl
                        refine pure_ (i := 2) (N := some 129) (v := ?_) (a' := ?_) #[true, false, true, false, false, false, false, false, false, false] rfl rfl (any_of HT_.out (by kernel_rfl)) (fun _ _ _ h => h) (Or.inl ⟨by rfl, ?_⟩) ?_ ?_
                        rotate_left
                        ·intro w'
                         go_simp
                         with_reducible rfl
                        rotate_left
                        ·simp only [Act.put, List.setIfInBounds_toArray, List.set_cons_zero, List.set_cons_succ, i64_w, i32_w]
                         rfl
                        refine pure_ (i := 4) (N := some 131) (v := ?_) (a' := ?_) #[true, false, true, false, true, false, false, false, false, false] rfl rfl (any_of HT_.out (by kernel_rfl)) (fun _ _ _ h => h) (Or.inl ⟨by rfl, ?_⟩) ?_ ?_
                        rotate_left
                        ·intro w'
                         go_simp
                         with_reducible rfl
                        rotate_left
                        ·simp only [Act.put, List.setIfInBounds_toArray, List.set_cons_zero, List.set_cons_succ, i64_w, i32_w]
                         rfl
                        refine pure_ (i := 8) (N := some 135) (v := ?_) (a' := ?_) #[true, false, true, false, true, false, false, false, true, false] rfl rfl (any_of HT_.out (by kernel_rfl)) (fun _ _ _ h => h) (Or.inl ⟨by rfl, ?_⟩) ?_ ?_
                        rotate_left
                        ·intro w'
                         go_simp
                         with_reducible rfl
                        rotate_left
                        ·simp only [Act.put, List.setIfInBounds_toArray, List.set_cons_zero, List.set_cons_succ, i64_w, i32_w]
                         rfl
                        refine take_ (i := 1) (N := some 128) (v := ?_) (a' := ?_) #[true, true, true, false, true, false, false, false, true, false] rfl rfl (take_ofW HT_.out HW_.out (by kernel_rfl)) (fun _ _ _ h => h) (Or.inl ⟨by rfl, ?_⟩) hHeld ?_ ?_
                        rotate_left
                        ·rintro w' ⟨s0, s1, s2, s3, s4, s5⟩
                         go_simp
                         with_reducible rfl
                        rotate_left
                        ·simp only [Act.put, List.setIfInBounds_toArray, List.set_cons_zero, List.set_cons_succ, i64_w, i32_w]
                         rfl
                        refine take_ (i := 3) (N := some 130) (v := ?_) (a' := ?_) #[true, true, true, true, true, false, false, false, true, false] rfl rfl (take_ofW HT_.out HW_.out (by kernel_rfl)) (fun _ _ _ h => h) (Or.inl ⟨by rfl, ?_⟩) hHeld ?_ ?_
                        rotate_left
                        ·rintro w' ⟨s0, s1, s2, s3, s4, s5⟩
                         go_simp
                         with_reducible rfl
                        rotate_left
                        ·simp only [Act.put, List.setIfInBounds_toArray, List.set_cons_zero, List.set_cons_succ, i64_w, i32_w]
                         rfl
                        refine pure_ (i := 5) (N := some 132) (v := ?_) (a' := ?_) #[true, true, true, true, true, true, false, false, true, false] rfl rfl (any_of HT_.out (by kernel_rfl)) (fun _ _ _ h => h) (Or.inl ⟨by rfl, ?_⟩) ?_ ?_
                        rotate_left
                        ·intro w'
                         go_simp
                         with_reducible rfl
                        rotate_left
                        ·simp only [Act.put, List.setIfInBounds_toArray, List.set_cons_zero, List.set_cons_succ, i64_w, i32_w]
                         rfl
                        refine take_ (i := 6) (N := some 133) (v := ?_) (a' := ?_) #[true, true, true, true, true, true, true, false, true, false] rfl rfl (take_ofW HT_.out HW_.out (by kernel_rfl)) (fun _ _ _ h => h) (Or.inl ⟨by rfl, ?_⟩) hHeld ?_ ?_
                        rotate_left
                        ·rintro w' ⟨s0, s1, s2, s3, s4, s5⟩
                         go_simp
                         with_reducible rfl
                        rotate_left
                        ·simp only [Act.put, List.setIfInBounds_toArray, List.set_cons_zero, List.set_cons_succ, i64_w, i32_w]
                         rfl
                        refine one_ (i := 7) (N := some 134) #[true, true, true, true, true, true, true, true, true, false] rfl rfl (one_of HT_.out (by kernel_rfl)) (by decide) (fun K hK => ?_)
                        refine goes_ Tryd.func107 (by kernel_rfl) rfl #[.slice (some ad112) l0_3.length c0_3, .agg #[.int .i64 ((rd_T87 l0_3 x8_7).f0), .slice A112_1 ((rd_T87 l0_3 x8_7).f1).length c112_1]] (by rfl) rfl rfl (by (try simp only [List.map_toArray, List.map_cons, List.map_nil]); first | done | rfl | (simp only [List.length_drop, List.length_take]; rfl)) ?_
                        with_reducible refine (wickerref02_Find.calls k7 _ _ l0_3 ((rd_T87 l0_3 x8_7).f0) _ _ ((rd_T87 l0_3 x8_7).f1) t113 _ ?side1 ?side2 ?side3 ?side4 A72.out).mono ?_
                        (case side1 => repeat (first | exact (Kd.C_below HR0_3.out HB.out) | (with_reducible refine Kd.C_alloc ?_ _) | (with_reducible refine Kd.C_drewN ?_ _) | (with_reducible refine Kd.C_drew ?_)))
                        (case side2 => exact HC0_3.out)
                        (case side3 => repeat (first | exact (Kd.C_below HR112_1.out HB.out) | (with_reducible refine Kd.C_alloc ?_ _) | (with_reducible refine Kd.C_drewN ?_ _) | (with_reducible refine Kd.C_drew ?_)))
                        (case side4 => exact HC112_1.out)
                        rintro e w79 ⟨rfl, hb⟩
                        refine ⟨_, rfl, ?_⟩
                        have n0_ := Aside0.mk (blk_below (g := gb101) (o := .cells #[.slice A0_0 l0_0.length c0_0, .slice A0_1 l0_1.length c0_1, .int .i64 a0_2, .slice (some ad112) l0_3.length c0_3] 63 (0, 0)) (by (with_reducible repeat (first | refine blk_drewN ?_ _ | refine blk_drew ?_ | refine blk_alloc ?_ _)); exact BK101.out) hb)
                        have n1_ := Aside0.mk (below_step (by repeat (first | (with_reducible first | exact HB.out | apply below_alloc | apply pw_below_drewN | apply below_drew1 | refine below_set ?_ GE101.out) | exact HB.out)) hb)
                        clear BK101
                        clear HB
                        have BK101 := n0_
                        have HB := n1_
                        clear n0_ n1_
                        (try clear hb)
                        (try clear hb2)
                        (try clear hk)
                        (try clear hi)
                        refine hK.out _ _ ⟨(blk_cell BK101.out 0).trans rfl, (blk_cell BK101.out 1).trans rfl, (blk_cell BK101.out 2).trans rfl, (blk_cell BK101.out 3).trans rfl, ((HB.out.cell (World.block_lt_of_cell? w _ hw112_0)).trans hw112_0), ((HB.out.cell (World.block_lt_of_cell? w _ hw112_1)).trans hw112_1)⟩ (fun hHeld => ?_)
                        clear hK K
                        refine norm_ (a' := ?_) ?_ ?_
                        rotate_left
                        ·show Act.put _ (some 134) _ = _
                         simp only [Act.put, List.setIfInBounds_toArray, List.set_cons_zero, List.set_cons_succ, i64_w, i32_w]
                         rfl
                        refine pure_ (i := 9) (N := some 136) (v := ?_) (a' := ?_) #[true, true, true, true, true, true, true, true, true, true] rfl rfl (any_of HT_.out (by kernel_rfl)) (fun _ _ _ h => h) (Or.inl ⟨by rfl, ?_⟩) ?_ ?_
                        rotate_left
                        ·intro w'
                         go_simp
                         with_reducible rfl
                        rotate_left
                        ·simp only [Act.put, List.setIfInBounds_toArray, List.set_cons_zero, List.set_cons_succ, i64_w, i32_w]
                         rfl
                        refine done_ (done_of HT_.out (by kernel_rfl)) ?_
                        try go_wp2
                        go_roundg k7
                        case measure => have := HJ1.out; have := HK2.out; have := HK3.out; have := HJ24.out; have := HJ32.out; have := HK6.out; have := HK7.out; omega
                        case rel => exact ⟨(wrap64 (x8_7 + 1)), (by first | rfl | (simp; done) | (simp [*]; done)), H', ⟨by have := HJ1.out; have := HK2.out; have := HK3.out; have := HJ24.out; have := HJ32.out; have := HK6.out; have := HK7.out; omega⟩, ⟨by (with_reducible repeat (first | refine blk_drewN ?_ _ | refine blk_drew ?_ | refine blk_alloc ?_ _)); exact BK101.out⟩, ⟨by repeat (first | (with_reducible first | exact HB.out | apply below_alloc | apply pw_below_drewN | apply below_drew1 | refine below_set ?_ GE101.out) | exact HB.out)⟩⟩
                      ·rw [if_neg c71] at H
                       exact absurd H (by simp)
                     ·rw [if_neg c70] at H
                      have c70b0 : decide (x8_7 < (l0_3.length : Int)) = false := decide_eq_false c70
                      clear c70
                      obtain rfl := Option.some.inj H
                      have hcz80_0 : wr.cell? ⟨gb101, 0, none⟩ = some (.slice A0_0 l0_0.length c0_0) := (blk_cell BK101.out 0).trans rfl
                      have hcz80_1 : wr.cell? ⟨gb101, 1, none⟩ = some (.slice A0_1 l0_1.length c0_1) := (blk_cell BK101.out 1).trans rfl
                      have hcz80_2 : wr.cell? ⟨gb101, 2, none⟩ = some (.int .i64 a0_2) := (blk_cell BK101.out 2).trans rfl
                      have hcz80_3 : wr.cell? ⟨gb101, 3, none⟩ = some (.slice A0_3 l0_3.length c0_3) := (blk_cell BK101.out 3).trans rfl
                      have hfz80_0 := blk_frozen BK101.out 0
                      have hfz80_1 := blk_frozen BK101.out 1
                      have hfz80_2 := blk_frozen BK101.out 2
                      have hfz80_3 := blk_frozen BK101.out 3
                      go_wp2
                      go_ret
                      exact ⟨by first | rfl | (simp [errW_none, errW_some] <;> rfl) | (simp [*, errW_none, errW_some] <;> rfl), by repeat (first | (with_reducible first | exact HB.out | apply below_alloc | apply pw_below_drewN | apply below_drew1 | refine below_set ?_ GE101.out) | exact HB.out)⟩
end Go.Proofs.YtmdjmbdeeodehaaDoor.G
end
section
set_option linter.unusedVariables false
set_option linter.unusedSimpArgs false
namespace Go.Proofs.YtmdjmbdeeodehaaDoor.G
open Go Go.RowKit Go.Proofs.YtmdjmbdeeodehaaDoorW.PrintWords Go.Proofs.YtmdjmbdeeodehaaDoor.Pure
theorem rdS (l : List GRule) (i : Nat) (h : i < l.length) : rd_T87 (l.map ofR) (i : Int) = ofR l[i] := by
  rw [rd_T87, Int.toNat_natCast, List.getD_eq_getElem?_getD, List.getElem?_eq_getElem (by rw [List.length_map]; exact h)]
  simp
theorem rdB (l : List ByteArray) (i : Nat) (h : i < l.length) : rdOf ByteArray.empty l (i : Int) = l[i] := by
  rw [rdOf, Int.toNat_natCast, List.getD_eq_getElem?_getD, List.getElem?_eq_getElem h]; rfl
theorem succ64 {i : Nat} (h : i ≤ 1000000000) : wrap64 ((i : Int) + 1) = ((i + 1 : Nat) : Int) := by rw [w64 (by omega) (by omega)]; rfl
theorem nodup_take {α : Type} (l : List α) (i : Nat) (h : i < l.length) : (l.take (i + 1)).Nodup ↔ (l.take i).Nodup ∧ l[i] ∉ l.take i := by
  rw [List.take_succ_eq_append_getElem h, List.nodup_append]
  constructor
  · rintro ⟨h1, _, h3⟩
    exact ⟨h1, fun hm => h3 _ hm _ (by simp) rfl⟩
  · rintro ⟨h1, h2⟩
    refine ⟨h1, by simp, fun a ha b hb e => h2 ?_⟩
    simp at hb
    rw [← hb, ← e]; exact ha
theorem nodup_of_take {α : Type} {l : List α} (h : l.Nodup) (i : Nat) : (l.take i).Nodup := h.sublist (List.take_sublist i l)
theorem take_mem_idx {α : Type} {l : List α} {i : Nat} {x : α} : x ∈ l.take i ↔ ∃ j, ∃ h : j < l.length, j < i ∧ l[j] = x := by
  rw [List.mem_iff_getElem]
  constructor
  · rintro ⟨j, hj, e⟩
    rw [List.length_take] at hj
    exact ⟨j, by omega, by omega, by rw [← e, List.getElem_take]⟩
  · rintro ⟨j, h, hj, e⟩
    exact ⟨j, by rw [List.length_take]; omega, by rw [List.getElem_take]; exact e⟩
theorem same_l0 (a b : List Int) (ha : a.length ≤ 1000000) (hl : a.length = b.length) (x y : Int) : ∀ (d i : Nat), i + d = a.length → Ev (fun k => wickerref02_Same.l0 k (i : Int) x a y b) (decide (a.drop i = b.drop i)) := by
  intro d
  induction d with
  | zero =>
    intro i hi
    refine ev_nowS fun k => ?_
    rw [wickerref02_Same.l0, if_neg (by omega), List.drop_eq_nil_of_le (by omega), List.drop_eq_nil_of_le (by omega)]
    rfl
  | succ d ih =>
    intro i hi
    have h1 : i < a.length := by omega
    have h2 : i < b.length := by omega
    by_cases e : a[i] = b[i]
    · refine Ev.step (fun k => ?_) (Ev.eq (ih (i + 1) (by omega)) ?_)
      · rw [wickerref02_Same.l0, if_pos (by omega), if_pos (by omega), if_pos (by omega), rd_at a i h1, rd_at b i h2, if_pos e, succ64 (by omega)]
      · rw [List.drop_eq_getElem_cons h1, List.drop_eq_getElem_cons h2, decide_eq_decide, List.cons.injEq]
        exact ⟨fun h => ⟨e, h⟩, fun h => h.2⟩
    · refine ev_nowS fun k => ?_
      rw [wickerref02_Same.l0, if_pos (by omega), if_pos (by omega), if_pos (by omega), rd_at a i h1, rd_at b i h2, if_neg e, List.drop_eq_getElem_cons h1, List.drop_eq_getElem_cons h2, decide_eq_false (fun h => e (by injection h))]
theorem same_f (r s : GRule) (hr : r.f1.length ≤ 1000000) (hs : s.f1.length ≤ 1000000) : Ev (fun k => wickerref02_Same.f k r.f0 r.f1 s.f0 s.f1) (decide (r = s)) := by
  have hext : r = s ↔ r.f0 = s.f0 ∧ r.f1 = s.f1 := ⟨fun e => by rw [e]; exact ⟨rfl, rfl⟩, fun h => by cases r; cases s; simp only at h; rw [h.1, h.2]⟩
  unfold wickerref02_Same.f
  by_cases h0 : r.f0 = s.f0
  · refine Ev.pos h0 ?_
    by_cases hl : r.f1.length = s.f1.length
    · refine Ev.step (fun k => ?_) (Ev.eq (same_l0 r.f1 s.f1 hr hl r.f0 s.f0 r.f1.length 0 (by omega)) ?_)
      · rw [wickerref02_Same.j0, if_neg (by simp [hl])]; rfl
      · rw [List.drop_zero, List.drop_zero]; simp [hext, h0]
    · refine ev_nowS fun k => ?_
      rw [wickerref02_Same.j0, if_pos (by rw [bne_iff_ne]; omega)]
      simp [hext, h0]
      intro e; exact hl (by rw [e])
  · refine Ev.neg h0 (ev_nowS fun k => ?_)
    rw [wickerref02_Same.j0, if_pos rfl]
    simp [hext, h0]
def findG (r : GRule) : List GRule → Int → Int
  | [], _ => -1
  | x :: t, i => if x = r then i else findG r t (i + 1)
theorem ruleOk_len {r : GRule} (h : ruleOk r = true) : r.f1.length ≤ 1000000 := by
  simp only [ruleOk, Bool.and_eq_true, decide_eq_true_eq] at h
  exact h.1.2
theorem find_l0 (l : List GRule) (hn : l.length ≤ 1000000) (hok : l.all ruleOk = true) (r : GRule) (hr : r.f1.length ≤ 1000000) : ∀ (d i : Nat), i + d = l.length → Ev (fun k => wickerref02_Find.l0 k (l.map ofR) (i : Int) r.f0 r.f1) (findG r (l.drop i) (i : Int)) := by
  intro d
  induction d with
  | zero =>
    intro i hi
    refine ev_nowS fun k => ?_
    rw [wickerref02_Find.l0, List.length_map, if_neg (by omega), List.drop_eq_nil_of_le (by omega)]; rfl
  | succ d ih =>
    intro i hi
    have h1 : i < l.length := by omega
    have hs := same_f l[i] r (ruleOk_len (List.all_eq_true.1 hok _ (List.getElem_mem _))) hr
    refine Ev.step (f := fun k => (wickerref02_Same.f k l[i].f0 l[i].f1 r.f0 r.f1).bind fun t => if t = true then some (i : Int) else wickerref02_Find.l0 k (l.map ofR) ((i + 1 : Nat) : Int) r.f0 r.f1) (fun k => ?_) (Ev.bind hs ?_)
    · rw [wickerref02_Find.l0, List.length_map, if_pos (by omega), if_pos (by omega), rdS l i h1, succ64 (by omega)]; rfl
    · rw [List.drop_eq_getElem_cons h1, findG]
      by_cases e : l[i] = r
      · rw [if_pos e]; exact Ev.pos (decide_eq_true e) (Ev.now _)
      · rw [if_neg e]; exact Ev.neg (by rw [decide_eq_false e]; simp) (ih (i + 1) (by omega))
theorem find_f (l : List GRule) (hn : l.length ≤ 1000000) (hok : l.all ruleOk = true) (r : GRule) (hr : r.f1.length ≤ 1000000) : Ev (fun k => wickerref02_Find.f k (l.map ofR) r.f0 r.f1) (findG r l 0) := find_l0 l hn hok r hr l.length 0 (by omega)
theorem findG_lt (r : GRule) : ∀ (l : List GRule) (m i : Nat), (r ∈ l.take m → findG r l i < ((i + m : Nat) : Int)) ∧ (r ∈ l → r ∉ l.take m → ((i + m : Nat) : Int) ≤ findG r l i) := by
  intro l
  induction l with
  | nil => intro m i; simp
  | cons a l ih =>
    intro m i
    cases m with
    | zero =>
      refine ⟨by simp, fun h _ => ?_⟩
      rw [findG]
      by_cases e : a = r
      · rw [if_pos e]; omega
      · rw [if_neg e]
        have := (ih 0 (i + 1)).2 (by rcases List.mem_cons.1 h with h | h; exact absurd h.symm e; exact h) (by simp)
        have e2 : ((i : Int) + 1) = ((i + 1 : Nat) : Int) := by omega
        rw [e2]; omega
    | succ m =>
      have e2 : ((i : Int) + 1) = ((i + 1 : Nat) : Int) := by omega
      rw [findG, List.take_succ_cons, e2]
      by_cases e : a = r
      · rw [if_pos e]
        exact ⟨fun _ => by omega, fun _ hn => absurd (by rw [e]; simp) hn⟩
      · rw [if_neg e]
        obtain ⟨h1, h2⟩ := ih m (i + 1)
        refine ⟨fun h => ?_, fun h hn => ?_⟩
        · have := h1 (by rcases List.mem_cons.1 h with h | h; exact absurd h.symm e; exact h); omega
        · have := h2 (by rcases List.mem_cons.1 h with h | h; exact absurd h.symm e; exact h) (fun hm => hn (List.mem_cons_of_mem _ hm)); omega
theorem findG_take (l : List GRule) (i : Nat) (h : i < l.length) : findG l[i] l 0 < (i : Int) ↔ l[i] ∈ l.take i := by
  have hh := findG_lt l[i] l i 0
  rw [Nat.zero_add] at hh
  constructor
  · intro hlt
    apply Classical.byContradiction
    intro hn
    have := hh.2 (List.getElem_mem _) hn
    have e : findG l[i] l ((0 : Nat) : Int) = findG l[i] l 0 := rfl
    omega
  · intro hm; exact hh.1 hm
theorem twice_l1 (l : List ByteArray) (hn : l.length ≤ 1000000) (i : Nat) (hi : i < l.length) (R : Bool) (hno : l[i] ∉ l.take i → Ev (fun k => wickerref02_twice.l0 k l ((i + 1 : Nat) : Int)) R) (hyes : l[i] ∈ l.take i → R = true) :
    ∀ (d j : Nat), j + d = i → l[i] ∉ l.take j → Ev (fun k => wickerref02_twice.l1 k l (i : Int) (j : Int)) R := by
  intro d
  induction d with
  | zero =>
    intro j hj hm
    obtain rfl : j = i := by omega
    refine Ev.step (fun k => ?_) (hno hm)
    rw [wickerref02_twice.l1, if_neg (by omega), succ64 (by omega)]
  | succ d ih =>
    intro j hj hm
    have hjl : j < l.length := by omega
    by_cases e : l[i] = l[j]
    · rw [hyes (take_mem_idx.2 ⟨j, hjl, by omega, e.symm⟩)]
      refine ev_nowS fun k => ?_
      rw [wickerref02_twice.l1, if_pos (by omega), if_pos (by omega), if_pos (by omega), if_pos (by omega), if_pos (by omega), rdB l i hi, rdB l j hjl, if_pos (by rw [e])]
    · refine Ev.step (fun k => ?_) (ih (j + 1) (by omega) ?_)
      · rw [wickerref02_twice.l1, if_pos (by omega), if_pos (by omega), if_pos (by omega), if_pos (by omega), if_pos (by omega), rdB l i hi, rdB l j hjl, if_neg (fun h => e ((ba_list _ _).1 h)), succ64 (by omega)]
      · rw [List.take_succ_eq_append_getElem hjl, List.mem_append]
        rintro (h | h)
        · exact hm h
        · exact e (by simpa using h)
theorem twice_l0 (l : List ByteArray) (hn : l.length ≤ 1000000) : ∀ (d i : Nat), i + d = l.length → (l.take i).Nodup → Ev (fun k => wickerref02_twice.l0 k l (i : Int)) (!decide l.Nodup) := by
  intro d
  induction d with
  | zero =>
    intro i hi hd
    rw [List.take_of_length_le (by omega)] at hd
    refine ev_nowS fun k => ?_
    rw [wickerref02_twice.l0, if_neg (by omega)]; simp [hd]
  | succ d ih =>
    intro i hi hd
    have h1 : i < l.length := by omega
    refine Ev.step (fun k => ?_) (twice_l1 l hn i h1 (!decide l.Nodup) (fun h => ih (i + 1) (by omega) ((nodup_take l i h1).2 ⟨hd, h⟩)) (fun h => ?_) i 0 (by omega) (by simp))
    · rw [wickerref02_twice.l0, if_pos (by omega)]; rfl
    · have : ¬ l.Nodup := fun hN => ((nodup_take l i h1).1 (nodup_of_take hN _)).2 h
      simp [this]
theorem twice_f (l : List ByteArray) (hn : l.length ≤ 1000000) : Ev (fun k => wickerref02_twice.f k l) (!decide l.Nodup) := twice_l0 l hn l.length 0 (by omega) (by simp)
theorem refhas_f (l0 l1 : List ByteArray) (h1 : l1.length ≤ 1000000) (a2 : Int) (l3 : List RRule) (s : Int) : wickerref02_Has.f l0 l1 a2 l3 s = some (hasB l0.length l1.length s) := by
  unfold wickerref02_Has.f hasB
  rw [w64 (by omega) (by omega)]
  by_cases hs : s < 0
  · rw [if_pos (by omega), if_pos hs]
    congr 1
    by_cases h : (l1.length : Int) > -1 - s
    · rw [decide_eq_true (by omega), decide_eq_true (by omega)]
    · rw [decide_eq_false (by omega), decide_eq_false (by omega)]
  · rw [if_neg hs]
    by_cases h : s < (l0.length : Int)
    · rw [if_pos h, decide_eq_true (by omega), decide_eq_true h]
    · rw [if_neg h, decide_eq_false h]
section
variable (l0 l1 : List ByteArray) (a2 : Int) (l3 : List GRule) (h0 : l0.length ≤ 1000000) (h1 : l1.length ≤ 1000000) (hn : l3.length ≤ 1000000) (hok : l3.all ruleOk = true)
include h0 h1 hn hok
omit h0 h1 in
theorem check_l4 : ∀ (d i : Nat), i + d = l3.length → (l3.take i).Nodup → Ev (fun k => wickerref02_Check.l4 k (i : Int) l0 l1 a2 (l3.map ofR)) (if l3.Nodup then 0 else 2) := by
  intro d
  induction d with
  | zero =>
    intro i hi hd
    rw [List.take_of_length_le (by omega)] at hd
    rw [if_pos hd]
    refine ev_nowS fun k => ?_
    rw [wickerref02_Check.l4, List.length_map, if_neg (by omega)]
  | succ d ih =>
    intro i hi hd
    have hi1 : i < l3.length := by omega
    have hf := find_f l3 hn hok l3[i] (ruleOk_len (List.all_eq_true.1 hok _ (List.getElem_mem _)))
    refine Ev.step (f := fun k => (wickerref02_Find.f k (l3.map ofR) l3[i].f0 l3[i].f1).bind fun t => if t < (i : Int) then some 2 else wickerref02_Check.l4 k ((i + 1 : Nat) : Int) l0 l1 a2 (l3.map ofR)) (fun k => ?_) (Ev.bind hf ?_)
    · rw [wickerref02_Check.l4, List.length_map, if_pos (by omega), if_pos (by omega), rdS l3 i hi1, succ64 (by omega)]; rfl
    · by_cases e : l3[i] ∈ l3.take i
      · rw [if_neg (fun hN => ((nodup_take l3 i hi1).1 (nodup_of_take hN _)).2 e)]
        exact Ev.pos ((findG_take l3 i hi1).2 e) (Ev.now _)
      · exact Ev.neg (fun h => e ((findG_take l3 i hi1).1 h)) (ih (i + 1) (by omega) ((nodup_take l3 i hi1).2 ⟨hd, e⟩))
omit h0 in
theorem check_l3 (i : Nat) (hi : i < l3.length) (R : Int) (hbad : ¬ (l3[i].f1.all (hasB l0.length l1.length) = true) → R = 3) (hlong : l3[i].f1.all (hasB l0.length l1.length) = true → 64 < l3[i].f1.length → R = 5) (hgo : l3[i].f1.all (hasB l0.length l1.length) = true → ¬ 64 < l3[i].f1.length → Ev (fun k => wickerref02_Check.l2 k ((i + 1 : Nat) : Int) l0 l1 a2 (l3.map ofR)) R) :
    ∀ (d j : Nat), j + d = l3[i].f1.length → (l3[i].f1.take j).all (hasB l0.length l1.length) = true → Ev (fun k => wickerref02_Check.l3 k (i : Int) (j : Int) l0 l1 a2 (l3.map ofR) l3[i].f0 l3[i].f1) R := by
  have hl := ruleOk_len (List.all_eq_true.1 hok _ (List.getElem_mem hi))
  intro d
  induction d with
  | zero =>
    intro j hj ha
    rw [List.take_of_length_le (by omega)] at ha
    by_cases h64 : 64 < l3[i].f1.length
    · rw [hlong ha h64]
      refine ev_nowS fun k => ?_
      rw [wickerref02_Check.l3, if_neg (by omega), if_pos (by omega)]
    · refine Ev.step (fun k => ?_) (hgo ha h64)
      rw [wickerref02_Check.l3, if_neg (by omega), if_neg (by omega), succ64 (by omega)]
  | succ d ih =>
    intro j hj ha
    have hj1 : j < l3[i].f1.length := by omega
    by_cases hb : hasB l0.length l1.length l3[i].f1[j] = true
    · refine Ev.step (fun k => ?_) (ih (j + 1) (by omega) (by rw [List.take_succ_eq_append_getElem hj1, List.all_append, ha]; simp [hb]))
      rw [wickerref02_Check.l3, if_pos (by omega), if_pos (by omega), rd_at _ j hj1, refhas_f l0 l1 h1, Option.bind_some, if_pos hb, succ64 (by omega)]
    · rw [hbad (fun h => hb (List.all_eq_true.1 h _ (List.getElem_mem _)))]
      refine ev_nowS fun k => ?_
      rw [wickerref02_Check.l3, if_pos (by omega), if_pos (by omega), rd_at _ j hj1, refhas_f l0 l1 h1, Option.bind_some, if_neg hb]
omit h0 in
theorem check_l2 : ∀ (d i : Nat), i + d = l3.length → Ev (fun k => wickerref02_Check.l2 k (i : Int) l0 l1 a2 (l3.map ofR)) (match (l3.drop i).find? (fun r => decide (ruleC l0.length l1.length r ≠ 0)) with
    | some r => ruleC l0.length l1.length r
    | none => if l3.Nodup then 0 else 2) := by
  intro d
  induction d with
  | zero =>
    intro i hi
    rw [List.drop_eq_nil_of_le (by omega)]
    refine Ev.step (fun k => ?_) (check_l4 l0 l1 a2 l3 hn hok l3.length 0 (by omega) (by simp))
    rw [wickerref02_Check.l2, List.length_map, if_neg (by omega)]; rfl
  | succ d ih =>
    intro i hi
    have hi1 : i < l3.length := by omega
    rw [List.drop_eq_getElem_cons hi1, List.find?_cons]
    have key : ∀ b : Bool, b = decide (l3[i].f0 < 0 ∨ (l0.length : Int) ≤ l3[i].f0) → Ev (fun k => wickerref02_Check.j6 k (i : Int) b l0 l1 a2 (l3.map ofR) l3[i].f0 l3[i].f1) (match (match decide (ruleC l0.length l1.length l3[i] ≠ 0) with | true => some l3[i] | false => (l3.drop (i + 1)).find? (fun r => decide (ruleC l0.length l1.length r ≠ 0))) with
        | some r => ruleC l0.length l1.length r
        | none => if l3.Nodup then 0 else 2) := by
      intro b hb
      by_cases hL : l3[i].f0 < 0 ∨ (l0.length : Int) ≤ l3[i].f0
      · have e3 : ruleC l0.length l1.length l3[i] = 3 := by unfold ruleC; rw [if_pos (by rcases hL with h | h; exact .inl h; exact .inr (.inl h))]
        rw [show decide (ruleC l0.length l1.length l3[i] ≠ 0) = true by rw [e3]; rfl]
        simp only [e3]
        refine ev_nowS fun k => ?_
        rw [wickerref02_Check.j6, if_pos (by rw [hb, decide_eq_true hL])]
      · refine Ev.step (fun k => ?_) (check_l3 l0 l1 a2 l3 h1 hn hok i hi1 _ (fun hbad => ?_) (fun ha h64 => ?_) (fun ha h64 => ?_) l3[i].f1.length 0 (by omega) (by simp))
        · rw [wickerref02_Check.j6, if_neg (by rw [hb, decide_eq_false hL]; simp)]; rfl
        · have e3 : ruleC l0.length l1.length l3[i] = 3 := by unfold ruleC; rw [if_pos (.inr (.inr hbad))]
          rw [show decide (ruleC l0.length l1.length l3[i] ≠ 0) = true by rw [e3]; rfl]; simp only [e3]
        · have e5 : ruleC l0.length l1.length l3[i] = 5 := by unfold ruleC; rw [if_neg (fun h => h.elim (fun h => hL (.inl h)) (fun h => h.elim (fun h => hL (.inr h)) (fun h => h ha))), if_pos h64]
          rw [show decide (ruleC l0.length l1.length l3[i] ≠ 0) = true by rw [e5]; rfl]; simp only [e5]
        · have e0 : ruleC l0.length l1.length l3[i] = 0 := by unfold ruleC; rw [if_neg (fun h => h.elim (fun h => hL (.inl h)) (fun h => h.elim (fun h => hL (.inr h)) (fun h => h ha))), if_neg h64]
          rw [show decide (ruleC l0.length l1.length l3[i] ≠ 0) = false by rw [e0]; rfl]
          exact ih (i + 1) (by omega)
    by_cases hneg : l3[i].f0 < 0
    · refine Ev.step (fun k => ?_) (key true (by rw [decide_eq_true (.inl hneg)]))
      rw [wickerref02_Check.l2, List.length_map, if_pos (by omega), if_pos (by omega), rdS l3 i hi1]
      exact if_pos hneg
    · refine Ev.step (fun k => ?_) (key (decide (l3[i].f0 ≥ (l0.length : Int))) (by
        by_cases h : (l0.length : Int) ≤ l3[i].f0
        · rw [decide_eq_true (show l3[i].f0 ≥ (l0.length : Int) from h), decide_eq_true (.inr h)]
        · rw [decide_eq_false (show ¬ l3[i].f0 ≥ (l0.length : Int) from h), decide_eq_false (fun hh => hh.elim hneg h)]))
      rw [wickerref02_Check.l2, List.length_map, if_pos (by omega), if_pos (by omega), rdS l3 i hi1]
      exact if_neg hneg
end
theorem gram_bounds {l0 l1 : List ByteArray} {a2 : Int} {l3 : List GRule} (h : gramOk l0 l1 a2 l3 = true) : l0.length ≤ 1000000 ∧ l1.length ≤ 1000000 ∧ l3.length ≤ 1000000 ∧ (∀ s ∈ l0, s.size ≤ 1000000000) ∧ (∀ s ∈ l1, s.size ≤ 1000000000) ∧ symOk a2 = true ∧ l3.all ruleOk = true := by
  simp only [gramOk, Bool.and_eq_true, decide_eq_true_eq] at h
  exact ⟨h.1.1.1.1.1.1, h.1.1.1.1.1.2, h.1.1.1.1.2, fun s hs => of_decide_eq_true (List.all_eq_true.1 h.1.1.1.2 s hs), fun s hs => of_decide_eq_true (List.all_eq_true.1 h.1.1.2 s hs), h.1.2, h.2⟩
theorem all_drop_cons {l : List ByteArray} {p : ByteArray → Bool} {i : Nat} (h : i < l.length) : (l.take (i + 1)).all p = ((l.take i).all p && p l[i]) := by
  rw [List.take_succ_eq_append_getElem h, List.all_append]; simp
section
variable (l0 l1 : List ByteArray) (a2 : Int) (l3 : List GRule) (hg : gramOk l0 l1 a2 l3 = true)
include hg
theorem check_end (h0a : l0.all nmB = true) (h1a : l1.all mkB = true) :
    Ev (fun k => (wickerref02_twice.f k l0).bind fun t => if t = true then wickerref02_Check.j3 k true l0 l1 a2 (l3.map ofR) else (wickerref02_twice.f k l1).bind fun t => wickerref02_Check.j3 k t l0 l1 a2 (l3.map ofR))
      (if texC nmB l0 = 1 ∨ texC mkB l1 = 1 then 1 else if texC nmB l0 = 2 ∨ texC mkB l1 = 2 then 2 else if a2 < 0 ∨ (l0.length : Int) ≤ a2 then 3 else rulesC l0.length l1.length l3) := by
  obtain ⟨b0, b1, b3, s0, s1, _, hok⟩ := gram_bounds hg
  have c0 : texC nmB l0 = if l0.Nodup then 0 else 2 := by unfold texC; rw [if_pos h0a]
  have c1 : texC mkB l1 = if l1.Nodup then 0 else 2 := by unfold texC; rw [if_pos h1a]
  have n0 : ¬ (texC nmB l0 = 1 ∨ texC mkB l1 = 1) := by rw [c0, c1]; split <;> split <;> decide
  rw [if_neg n0]
  refine Ev.bind (twice_f l0 b0) ?_
  by_cases d0 : l0.Nodup
  · refine Ev.neg (by simp [d0]) (Ev.bind (twice_f l1 b1) ?_)
    by_cases d1 : l1.Nodup
    · rw [if_neg (by rw [c0, c1, if_pos d0, if_pos d1]; decide)]
      have go : Ev (fun k => wickerref02_Check.l2 k 0 l0 l1 a2 (l3.map ofR)) (rulesC l0.length l1.length l3) := check_l2 l0 l1 a2 l3 b1 b3 hok l3.length 0 (by omega)
      by_cases ha : a2 < 0
      · rw [if_pos (.inl ha)]
        refine Ev.step (f := fun k => wickerref02_Check.j4 k true l0 l1 a2 (l3.map ofR)) (fun k => ?_) (ev_nowS fun k => ?_)
        · rw [wickerref02_Check.j3, if_neg (by simp [d1]), if_pos ha]
        · rw [wickerref02_Check.j4, if_pos rfl]
      · by_cases hb : (l0.length : Int) ≤ a2
        · rw [if_pos (.inr hb)]
          refine Ev.step (f := fun k => wickerref02_Check.j4 k true l0 l1 a2 (l3.map ofR)) (fun k => ?_) (ev_nowS fun k => ?_)
          · rw [wickerref02_Check.j3, if_neg (by simp [d1]), if_neg ha, decide_eq_true (show a2 ≥ (l0.length : Int) from hb)]
          · rw [wickerref02_Check.j4, if_pos rfl]
        · rw [if_neg (by omega)]
          refine Ev.step (f := fun k => wickerref02_Check.j4 k false l0 l1 a2 (l3.map ofR)) (fun k => ?_) (Ev.step (fun k => ?_) go)
          · rw [wickerref02_Check.j3, if_neg (by simp [d1]), if_neg ha, decide_eq_false (show ¬ a2 ≥ (l0.length : Int) from hb)]
          · rw [wickerref02_Check.j4, if_neg (by simp)]
    · rw [if_pos (by rw [c0, c1, if_pos d0, if_neg d1]; decide)]
      refine ev_nowS fun k => ?_
      rw [wickerref02_Check.j3, if_pos (by simp [d1])]
  · rw [if_pos (by rw [c0, if_neg d0]; exact .inl rfl)]
    refine Ev.pos (by simp [d0]) (ev_nowS fun k => ?_)
    rw [wickerref02_Check.j3, if_pos rfl]
theorem check_l1 (h0a : l0.all nmB = true) : ∀ (d i : Nat), i + d = l1.length → (l1.take i).all mkB = true → Ev (fun k => wickerref02_Check.l1 k (i : Int) l0 l1 a2 (l3.map ofR))
      (if texC nmB l0 = 1 ∨ texC mkB l1 = 1 then 1 else if texC nmB l0 = 2 ∨ texC mkB l1 = 2 then 2 else if a2 < 0 ∨ (l0.length : Int) ≤ a2 then 3 else rulesC l0.length l1.length l3) := by
  have hb := gram_bounds hg
  intro d
  induction d with
  | zero =>
    intro i hi ha
    rw [List.take_of_length_le (by omega)] at ha
    refine Ev.step (fun k => ?_) (check_end l0 l1 a2 l3 hg h0a ha)
    rw [wickerref02_Check.l1, if_neg (by omega)]
  | succ d ih =>
    intro i hi ha
    have hi1 : i < l1.length := by omega
    by_cases hm : mkB l1[i] = true
    · refine Ev.step (fun k => ?_) (ih (i + 1) (by omega) (by rw [all_drop_cons hi1, ha, hm]; rfl))
      rw [wickerref02_Check.l1, if_pos (by omega), if_pos (by omega), rdB l1 i hi1, ref_mark_f, Option.bind_some, if_pos (show markL l1[i].data.toList = true from hm), succ64 (by omega)]
    · have : texC mkB l1 = 1 := by unfold texC; rw [if_neg (fun h => hm (List.all_eq_true.1 h _ (List.getElem_mem _)))]
      rw [if_pos (.inr this)]
      refine ev_nowS fun k => ?_
      rw [wickerref02_Check.l1, if_pos (by omega), if_pos (by omega), rdB l1 i hi1, ref_mark_f, Option.bind_some, if_neg (show ¬ markL l1[i].data.toList = true from hm)]
theorem check_l0 : ∀ (d i : Nat), i + d = l0.length → (l0.take i).all nmB = true → Ev (fun k => wickerref02_Check.l0 k (i : Int) l0 l1 a2 (l3.map ofR))
      (if texC nmB l0 = 1 ∨ texC mkB l1 = 1 then 1 else if texC nmB l0 = 2 ∨ texC mkB l1 = 2 then 2 else if a2 < 0 ∨ (l0.length : Int) ≤ a2 then 3 else rulesC l0.length l1.length l3) := by
  have hb := gram_bounds hg
  intro d
  induction d with
  | zero =>
    intro i hi ha
    rw [List.take_of_length_le (by omega)] at ha
    refine Ev.step (fun k => ?_) (check_l1 l0 l1 a2 l3 hg ha l1.length 0 (by omega) (by simp))
    rw [wickerref02_Check.l0, if_neg (by omega)]; rfl
  | succ d ih =>
    intro i hi ha
    have hi1 : i < l0.length := by omega
    have hnf := ref_name_f l0[i] (by have := hb.2.2.2.1 _ (List.getElem_mem hi1); omega)
    refine Ev.step (f := fun k => (wickerref01_Name.f k l0[i]).bind fun t => if t = true then wickerref02_Check.l0 k ((i + 1 : Nat) : Int) l0 l1 a2 (l3.map ofR) else some 1) (fun k => ?_) (Ev.bind hnf ?_)
    · rw [wickerref02_Check.l0, if_pos (by omega), if_pos (by omega), rdB l0 i hi1, succ64 (by omega)]
    · by_cases hm : nmB l0[i] = true
      · exact Ev.pos hm (ih (i + 1) (by omega) (by rw [all_drop_cons hi1, ha, hm]; rfl))
      · have : texC nmB l0 = 1 := by unfold texC; rw [if_neg (fun h => hm (List.all_eq_true.1 h _ (List.getElem_mem _)))]
        rw [if_pos (.inl this)]
        exact Ev.neg hm (Ev.now _)
theorem ref_check_f : Ev (fun k => wickerref02_Check.f k l0 l1 a2 (l3.map ofR)) (checkC nmB mkB l0 l1 a2 l3) := by
  have full : Ev (fun k => wickerref02_Check.j0 k true l0 l1 a2 (l3.map ofR)) 11 := ev_nowS fun k => by rw [wickerref02_Check.j0, if_pos rfl]
  unfold wickerref02_Check.f checkC
  by_cases x0 : l0.length = 0
  · rw [if_pos (.inl x0)]; exact Ev.pos (by omega) full
  by_cases x1 : 2048 < l0.length
  · rw [if_pos (.inr (.inl x1))]; exact Ev.neg (by omega) (Ev.pos (by omega) full)
  by_cases x2 : 2048 < l1.length
  · rw [if_pos (.inr (.inr (.inl x2)))]; exact Ev.neg (by omega) (Ev.neg (by omega) (Ev.pos (by omega) full))
  refine Ev.neg (by omega) (Ev.neg (by omega) (Ev.neg (by omega) ?_))
  rw [List.length_map]
  by_cases x3 : 8192 < l3.length
  · rw [if_pos (.inr (.inr (.inr x3))), decide_eq_true (by omega)]; exact full
  · rw [if_neg (by omega), decide_eq_false (by omega)]
    refine Ev.step (fun k => ?_) (check_l0 l0 l1 a2 l3 hg l0.length 0 (by omega) (by simp))
    rw [wickerref02_Check.j0, if_neg (by simp)]; rfl
end
end Go.Proofs.YtmdjmbdeeodehaaDoor.G
end
section
set_option linter.unusedVariables false
set_option linter.unusedSimpArgs false
namespace Go.Proofs.YtmdjmbdeeodehaaDoor.G
open Go Go.Proofs Go.RowKit Go.Proofs.YtmdjmbdeeodehaaDoorW.PrintWords Go.Proofs.YtmdjmbdeeodehaaDoorW.PrintLast Go.Proofs.YtmdjmbdeeodehaaDoorW.PrintMore Go.Proofs.YtmdjmbdeeodehaaDoor.Pure
def treeC (l0 l1 : List ByteArray) (a2 : Int) (l3 : List GRule) (t : TTree) : Int :=
  if checkC nmB mkB l0 l1 a2 l3 ≠ 0 then checkC nmB mkB l0 l1 a2 l3
  else if 65536 < cntT t then 11
  else if ¬ t.f0 < 0 then fitT l3 t
  else if ¬ t.f1 < 0 ∨ (l1.length : Int) ≤ -1 - t.f1 then 9
  else if t.f0 ≠ -1 ∨ 0 < t.f2.length then 9 else 0
def rootC (l0 l1 : List ByteArray) (a2 : Int) (l3 : List GRule) (t : TTree) : Int :=
  if treeC l0 l1 a2 l3 t ≠ 0 then treeC l0 l1 a2 l3 t else if t.f0 < 0 ∨ (ruleAt l3 t.f0).f0 ≠ a2 then 10 else 0
theorem treeC_at {l0 l1 : List ByteArray} {a2 : Int} {l3 : List GRule} {t : TTree} (h : treeC l0 l1 a2 l3 t = 0) (h0 : ¬ t.f0 < 0) : fitT l3 t = 0 := by
  unfold treeC at h
  split at h
  · rename_i h1; exact absurd h h1
  · split at h
    · exact absurd h (by decide)
    · first | exact h | (rw [if_pos h0] at h; exact h)
theorem leafWrong_f (t : TTree) : tree_leafWrong.f t.f0 t.f1 t.f2 = some (if t.f0 ≠ -1 ∨ 0 < t.f2.length then 9 else 0) := by
  unfold tree_leafWrong.f
  by_cases h : t.f0 = -1
  · rw [if_pos h]
    by_cases h2 : 0 < t.f2.length
    · rw [if_pos (by omega), if_pos (Or.inr h2)]
    · rw [if_neg (by omega), if_neg (by omega)]
  · rw [if_neg h, if_pos (Or.inl h)]
set_option maxHeartbeats 4000000 in
set_option maxRecDepth 100000 in
theorem treeCheck_calls (A0 : Option Addr) (c0 : Nat) (l0 : List ByteArray) (A1 : Option Addr) (c1 : Nat) (l1 : List ByteArray) (a2 : Int) (A3 : Option Addr) (c3 : Nat) (l3 : List GRule) (hok : gramOk l0 l1 a2 l3 = true) (h0 : l0.length ≤ c0) (h1 : l1.length ≤ c1) (h3 : l3.length ≤ c3) (t : TTree) (T : Option Addr) (tc : Nat) (htc : t.f2.length ≤ tc) (hcnt : cntT t ≤ 1000000) (hsy : symOk t.f1 = true)
    (w : World) (hG : Laid w) (hr0 : Kd.C Kd.string w A0 l0.length l0) (hr1 : Kd.C Kd.string w A1 l1.length l1) (hr3 : Kd.C k32 w A3 l3.length l3) (ht : Kd.C k55 w T t.f2.length t.f2) :
    Calls Tryd.prog 31 #[.agg #[.slice A0 l0.length c0, .slice A1 l1.length c1, .int .i64 a2, .slice A3 l3.length c3], .agg #[.int .i64 t.f0, .int .i64 t.f1, .slice T t.f2.length tc]] w fun e w' => e = .returned (.int .i64 (treeC l0 l1 a2 l3 t)) ∧ Below w.heap.size w w' := by
  have hu := Tryd.underlying25
  have hu2 := Tryd.underlying55
  have hI : InT w A0 c0 l0 A1 c1 l1 a2 A3 c3 l3 t T tc _ := InT.mk0 w hr0 hr1 hr3 ht
  have hb := gram_bounds hok
  have HN := Lib.hid hb.2.2.1
  have HO := Lib.hid hb.2.2.2.2.2.2
  have HCH := Lib.hid (show gram_Grammar_Check.f l0 l1 a2 l3 = some (checkC nmB mkB l0 l1 a2 l3) by unfold gram_Grammar_Check.f; rw [if_pos hok])
  have HG := Lib.hid hG
  obtain ⟨rs, hrs⟩ : ∃ rs, rs = treeC l0 l1 a2 l3 t := ⟨_, rfl⟩
  have HRS := Lib.hid hrs
  obtain ⟨K, hK⟩ := Pure.Ev.out (count_f _ t (Nat.le_refl _) hcnt)
  have HK := Lib.hid (hK K (Nat.le_refl _))
  have HCN := Lib.hid hcnt
  have HSY := Lib.hid hsy
  have hz0 := hI.g.c0
  have hz1 := hI.g.c1
  have hz2 := hI.g.c2
  have hz3 := hI.g.c3
  have HI := Lib.hid hI
  have hl1 : l1.length ≤ 1000000 := hb.2.1
  rw [← hrs]
  unfold treeC at hrs
  have HRU := Lib.hid hrs
  obtain ⟨ch, hch⟩ : ∃ ch, ch = checkC nmB mkB l0 l1 a2 l3 := ⟨_, rfl⟩
  rw [← hch] at HCH HRU
  clear hr0 hr1 hr3 ht hG hok hb hcnt hsy hI hK hrs hch
  go_enter Tryd.func31, Tryd.ntmps31
  go_wp2_with fail
  refine (gram_Grammar_Check.calls A0 c0 l0 A1 c1 l1 a2 A3 c3 l3 ch _ (Laid.below HG.out HI.out.g.bel) HI.out.g.r0 h0 HI.out.g.r1 h1 HI.out.g.r3 h3 HCH.out).mono ?_
  rintro e w2 ⟨rfl, hb2⟩
  have hI2 := HI.out.step hb2
  clear hb2 HI hz0 hz1 hz2 hz3
  by_cases hne : ch ≠ 0
  · have hneb : (ch != 0) = true := bne_iff_ne.2 hne
    have HE : Hid (rs = ch) := Lib.hid (by rw [HRU.out, if_pos hne])
    have HI2 := Lib.hid hI2
    clear hne hI2
    go_wp2
    go_ret
    rw [HE.out]
    exact ⟨rfl, HI2.out.g.bel⟩
  have hneb : (ch != 0) = false := by rw [Decidable.not_not.1 hne]; rfl
  have HE := Lib.hid (HRU.out.trans (if_neg hne))
  have y0 := hI2.t0
  have y1 := hI2.t1
  have y2 := hI2.t2
  have HI2 := Lib.hid hI2
  clear hne hI2
  go_wp2_with fail
  refine (tree_Count.calls K t.f0 t.f1 T tc t.f2 _ _ HI2.out.tr htc HK.out).mono ?_
  rintro e w3 ⟨rfl, hb3⟩
  have hI3 := HI2.out.step hb3
  have y0 := hI3.t0
  have y1 := hI3.t1
  have y2 := hI3.t2
  have HI3 := Lib.hid hI3
  clear hb3 HI2 hI3
  by_cases hgt : 65536 < cntT t
  · have hgtb : decide ((cntT t : Int) > 65536) = true := decide_eq_true (by omega)
    have HE2 : Hid (rs = 11) := Lib.hid (by rw [HE.out, if_pos hgt])
    go_wp2
    go_ret
    rw [HE2.out]
    exact ⟨rfl, HI3.out.g.bel⟩
  have hgtb : decide ((cntT t : Int) > 65536) = false := decide_eq_false (by omega)
  have HE2 := Lib.hid (HE.out.trans (if_neg hgt))
  go_wp2_with fail
  by_cases hlf : t.f0 < 0
  · have HLF : Hid (tree_Tree_leaf.f t.f0 t.f1 t.f2 = some true) := Lib.hid (by unfold tree_Tree_leaf.f; rw [decide_eq_true hlf])
    have HE3 := Lib.hid (HE2.out.trans (if_neg (by omega)))
    clear hlf
    refine (tree_Tree_leaf.calls t.f0 t.f1 T tc t.f2 true _ HI3.out.tr htc HLF.out).mono ?_
    rintro e w4 ⟨rfl, hb4⟩
    have hI4 := HI3.out.step hb4
    clear hb4 HI3 y0 y1 y2
    have y0 := hI4.t0
    have y1 := hI4.t1
    have y2 := hI4.t2
    have z1 := hI4.g.c1
    have HI4 := Lib.hid hI4
    clear hI4
    by_cases hs1 : t.f1 < 0
    · have HIT : Hid (gram_Sym_IsTerm.f t.f1 = some true) := Lib.hid (by rw [isTerm_f, decide_eq_true hs1])
      have HPL : Hid (gram_Sym_Place.f t.f1 = some (-1 - t.f1)) := Lib.hid (by rw [place_f t.f1 HSY.out, if_pos hs1])
      obtain ⟨p, hp⟩ : ∃ p, p = -1 - t.f1 := ⟨_, rfl⟩
      rw [← hp] at HPL
      have HP := Lib.hid hp
      by_cases hge : (l1.length : Int) ≤ p
      · have hgeb : decide (p ≥ (l1.length : Int)) = true := decide_eq_true hge
        have HE4 : Hid (rs = 9) := Lib.hid (by rw [HE3.out, if_pos (by omega)])
        clear hs1 hp hge
        go_wp2_with fail
        go_quiet (first | ((go_at_call 78; exact Calls.quiet_of ((gram_Sym_IsTerm.calls t.f1 true _ HIT.out).mono fun _ _ ⟨he, hd⟩ => ⟨he, hd.out⟩))) | ((go_at_call 79; exact Calls.quiet_of ((gram_Sym_Place.calls t.f1 p _ HPL.out).mono fun _ _ ⟨he, hd⟩ => ⟨he, hd.out⟩))))
        go_wp2
        go_ret
        rw [HE4.out]
        exact ⟨rfl, pw_below_drewN HI4.out.g.bel _⟩
      · have hgeb : decide (p ≥ (l1.length : Int)) = false := decide_eq_false hge
        have HE4 := Lib.hid (HE3.out.trans (if_neg (by omega)))
        have HLW := Lib.hid (leafWrong_f t)
        obtain ⟨lw, hlw⟩ : ∃ lw : Int, lw = if t.f0 ≠ -1 ∨ 0 < t.f2.length then 9 else 0 := ⟨_, rfl⟩
        rw [← hlw] at HLW HE4
        have hzz := hp
        clear hs1 hge hlw hzz hp
        go_wp2_with fail
        go_quiet (first | ((go_at_call 78; exact Calls.quiet_of ((gram_Sym_IsTerm.calls t.f1 true _ HIT.out).mono fun _ _ ⟨he, hd⟩ => ⟨he, hd.out⟩))) | ((go_at_call 79; exact Calls.quiet_of ((gram_Sym_Place.calls t.f1 p _ HPL.out).mono fun _ _ ⟨he, hd⟩ => ⟨he, hd.out⟩))))
        go_wp2_with fail
        refine (tree_leafWrong.calls t.f0 t.f1 T tc t.f2 lw _ (Kd.C_drewN HI4.out.tr _) htc HLW.out).mono ?_
        rintro e w5 ⟨rfl, hb5⟩
        have hI5 := (HI4.out.step (pw_below_drewN (Below.refl _ _) _)).step hb5
        have HI5 := Lib.hid hI5
        clear hb5 HI4 y0 y1 y2 hI5 z1
        go_wp2
        go_ret
        rw [HE4.out]
        exact ⟨rfl, HI5.out.g.bel⟩
    · have HIT : Hid (gram_Sym_IsTerm.f t.f1 = some false) := Lib.hid (by rw [isTerm_f, decide_eq_false hs1])
      have HE4 : Hid (rs = 9) := Lib.hid (HE3.out.trans (if_pos (by omega)))
      clear hs1
      go_wp2_with fail
      go_quiet ((go_at_call 78; exact Calls.quiet_of ((gram_Sym_IsTerm.calls t.f1 false _ HIT.out).mono fun _ _ ⟨he, hd⟩ => ⟨he, hd.out⟩)))
      go_wp2
      go_ret
      rw [HE4.out]
      exact ⟨rfl, pw_below_drewN HI4.out.g.bel _⟩
  · have HLF : Hid (tree_Tree_leaf.f t.f0 t.f1 t.f2 = some false) := Lib.hid (by unfold tree_Tree_leaf.f; rw [decide_eq_false hlf])
    have HE3 : Hid (rs = fitT l3 t) := Lib.hid (HE2.out.trans (if_pos (by omega)))
    clear hlf
    refine (tree_Tree_leaf.calls t.f0 t.f1 T tc t.f2 false _ HI3.out.tr htc HLF.out).mono ?_
    rintro e w4 ⟨rfl, hb4⟩
    have hI4 := HI3.out.step hb4
    clear hb4 HI3 y0 y1 y2
    have y0 := hI4.t0
    have y1 := hI4.t1
    have y2 := hI4.t2
    have z0 := hI4.g.c0
    have z1 := hI4.g.c1
    have z2 := hI4.g.c2
    have z3 := hI4.g.c3
    have HI4 := Lib.hid hI4
    clear hI4
    go_wp2_with fail
    refine (nodeWrong_calls _ A0 c0 l0 A1 c1 l1 a2 A3 c3 l3 HN.out HO.out t T tc (Nat.le_refl _) _ HI4.out.g.r0 HI4.out.g.r1 HI4.out.g.r3 HI4.out.tr).mono ?_
    rintro e w5 ⟨rfl, hb5⟩
    have HI5 := Lib.hid (HI4.out.step hb5)
    rw [← HE3.out]
    clear hb5 HI4 y0 y1 y2 z0 z1 z2 z3
    go_wp2
    go_ret
    exact ⟨rfl, HI5.out.g.bel⟩
theorem keep_root {w : World} {A0 : Option Addr} {c0 : Nat} {l0 : List ByteArray} {A1 : Option Addr} {c1 : Nat} {l1 : List ByteArray} {a2 : Int} {A3 : Option Addr} {c3 : Nat} {l3 : List GRule} {t : TTree} {T : Option Addr} {tc : Nat} {ad : Addr} {q2 : Int} {W W' : World} (hb : Below W.heap.size W W') (h : InT w A0 c0 l0 A1 c1 l1 a2 A3 c3 l3 t T tc W ∧ W.cell? ad = some (.int .i64 q2)) : InT w A0 c0 l0 A1 c1 l1 a2 A3 c3 l3 t T tc W' ∧ W'.cell? ad = some (.int .i64 q2) :=
  ⟨h.1.step hb, (hb.cell (World.block_lt_of_cell? _ _ h.2)).trans h.2⟩
set_option maxHeartbeats 8000000 in
set_option maxRecDepth 100000 in
theorem treeRoot_calls (A0 : Option Addr) (c0 : Nat) (l0 : List ByteArray) (A1 : Option Addr) (c1 : Nat) (l1 : List ByteArray) (a2 : Int) (A3 : Option Addr) (c3 : Nat) (l3 : List GRule) (hok : gramOk l0 l1 a2 l3 = true) (h0 : l0.length ≤ c0) (h1 : l1.length ≤ c1) (h3 : l3.length ≤ c3) (t : TTree) (T : Option Addr) (tc : Nat) (htc : t.f2.length ≤ tc) (hcnt : cntT t ≤ 1000000) (hsy : symOk t.f1 = true)
    (w : World) (hG : Laid w) (hr0 : Kd.C Kd.string w A0 l0.length l0) (hr1 : Kd.C Kd.string w A1 l1.length l1) (hr3 : Kd.C k32 w A3 l3.length l3) (ht : Kd.C k55 w T t.f2.length t.f2) :
    Calls Tryd.prog 33 #[.agg #[.slice A0 l0.length c0, .slice A1 l1.length c1, .int .i64 a2, .slice A3 l3.length c3], .agg #[.int .i64 t.f0, .int .i64 t.f1, .slice T t.f2.length tc]] w fun e w' => e = .returned (.int .i64 (rootC l0 l1 a2 l3 t)) ∧ Below w.heap.size w w' := by
  have hu := Tryd.underlying25
  have hu2 := Tryd.underlying55
  have hu3 := Tryd.underlying32
  have hI : InT w A0 c0 l0 A1 c1 l1 a2 A3 c3 l3 t T tc _ := InT.mk0 w hr0 hr1 hr3 ht
  have HG := Lib.hid hG
  have HCH := Lib.hid (fun (W : World) hG hr0 hr1 hr3 ht => treeCheck_calls A0 c0 l0 A1 c1 l1 a2 A3 c3 l3 hok h0 h1 h3 t T tc htc hcnt hsy W hG hr0 hr1 hr3 ht)
  obtain ⟨rs, hrs⟩ : ∃ rs, rs = rootC l0 l1 a2 l3 t := ⟨_, rfl⟩
  have HAT := Lib.hid (@treeC_at l0 l1 a2 l3 t)
  rw [← hrs]
  unfold rootC at hrs
  have HRU := Lib.hid hrs
  generalize treeC l0 l1 a2 l3 t = ch at *
  have hz0 := hI.g.c0
  have hz1 := hI.g.c1
  have hz2 := hI.g.c2
  have hz3 := hI.g.c3
  have y0 := hI.t0
  have y1 := hI.t1
  have y2 := hI.t2
  have HI := Lib.hid hI
  clear hr0 hr1 hr3 ht hG hok hcnt hsy hI hrs
  go_enter Tryd.func33, Tryd.ntmps33
  go_wp2_with fail
  refine (HCH.out _ (Laid.below HG.out HI.out.g.bel) HI.out.g.r0 HI.out.g.r1 HI.out.g.r3 HI.out.tr).mono ?_
  rintro e w2 ⟨rfl, hb2⟩
  have hI2 := HI.out.step hb2
  clear hb2 HI hz0 hz1 hz2 hz3 y0 y1 y2
  by_cases hne : ch ≠ 0
  · have hneb : (ch != 0) = true := bne_iff_ne.2 hne
    have HE : Hid (rs = ch) := Lib.hid (by rw [HRU.out, if_pos hne])
    have HI2 := Lib.hid hI2
    clear hne hI2
    go_wp2
    go_ret
    rw [HE.out]
    exact ⟨rfl, HI2.out.g.bel⟩
  have hneb : (ch != 0) = false := by rw [Decidable.not_not.1 hne]; rfl
  have HE := Lib.hid (HRU.out.trans (if_neg hne))
  by_cases hlf : t.f0 < 0
  · have HLF : Hid (tree_Tree_leaf.f t.f0 t.f1 t.f2 = some true) := Lib.hid (by unfold tree_Tree_leaf.f; rw [decide_eq_true hlf])
    have HE2 : Hid (rs = 10) := Lib.hid (HE.out.trans (if_pos (Or.inl hlf)))
    clear hlf hne
    go_wp2_with fail
    have hS0 : InT w A0 c0 l0 A1 c1 l1 a2 A3 c3 l3 t T tc w2.drew := hI2.step (below_drew (Below.refl _ _))
    clear hI2
    refine RegT.region (F := ?Ftf) (fun W => InT w A0 c0 l0 A1 c1 l1 a2 A3 c3 l3 t T tc W) (fun i v _ => match i with | 0 => v = .agg #[.int .i64 t.f0, .int .i64 t.f1, .slice T t.f2.length tc] | 1 => v = .bool true | 2 => v = .bool true | 3 => v = undef | 4 => v = undef | 5 => v = undef | 6 => v = undef | 7 => v = undef | 8 => v = undef | 9 => v = undef | 10 => v = undef | 11 => v = undef | 12 => v = undef | 13 => v = .bool true | _ => True) ?hFtf (by kernel_rfl) (by kernel_rfl) (by kernel_rfl) (by kernel_rfl) ?hRtf ?hStf ⟨?o0tf, ?o1tf, ?o2tf, ?o3tf, ?o4tf, ?o5tf, ?o6tf, ?o7tf, ?o8tf, ?o9tf, ?o10tf, ?o11tf, ?o12tf, ?o13tf, trivial⟩ ?hendtf
    case hFtf => intro f; (try simp only [RegT.fillIn, RegT.fv, Act.put, List.setIfInBounds_toArray, List.set_cons_zero, List.set_cons_succ]); exact rfl
    case hRtf => exact fun _ _ _ _ h _ => h
    case hStf => exact hS0
    case o0tf =>
      intro f W1 hS hd K hK
      clear hd
      have z2 := hS.g.c2
      have z3 := hS.g.c3
      have y0 := hS.t0
      have y1 := hS.t1
      have y2 := hS.t2
      (go_simp; first | exact hK.out (.agg #[.int .i64 t.f0, .int .i64 t.f1, .slice T t.f2.length tc]) _ hS (Below.refl _ _) rfl _ (by rfl))
    case o1tf =>
      intro f W1 hS hd K hK
      obtain ⟨e12, -⟩ := hd
      replace e12 : f 12 = .agg #[.int .i64 t.f0, .int .i64 t.f1, .slice T t.f2.length tc] := e12
      go_simp
      go_at_call 100
      (with_reducible refine (tree_Tree_leaf.calls t.f0 t.f1 T tc t.f2 true _ hS.tr htc HLF.out).mono ?_)
      rintro e w' ⟨rfl, hb⟩
      have hS' := hS.step hb
      exact hK.out (.bool true) _ hS' hb rfl _ (by (try simp only [e12]); rfl)
    case o2tf =>
      intro f W1 hS hd K hK
      obtain ⟨e13, -, -⟩ := hd
      replace e13 : f 13 = .bool true := e13
      (go_simp; first | exact hK.out (.bool true) _ hS (Below.refl _ _) rfl _ (by (try simp only [e13]); rfl))
    case o3tf =>
      intro f W1 hS hd K hK
      obtain ⟨e14, -⟩ := hd
      replace e14 : f 14 = .bool true := e14
      go_simp; exact hK.out undef _ hS (Below.refl _ _) rfl _ (by (try simp only [e14]); rfl)
    case o4tf =>
      intro f W1 hS hd K hK
      obtain ⟨e15, e14, -⟩ := hd
      replace e15 : f 15 = undef := e15
      replace e14 : f 14 = .bool true := e14
      go_simp; exact hK.out undef _ hS (Below.refl _ _) rfl _ (by (try simp only [e15, e14]); rfl)
    case o5tf =>
      intro f W1 hS hd K hK
      obtain ⟨e14, -⟩ := hd
      replace e14 : f 14 = .bool true := e14
      go_simp; exact hK.out undef _ hS (Below.refl _ _) rfl _ (by (try simp only [e14]); rfl)
    case o6tf =>
      intro f W1 hS hd K hK
      obtain ⟨e17, e14, -⟩ := hd
      replace e17 : f 17 = undef := e17
      replace e14 : f 14 = .bool true := e14
      go_simp; exact hK.out undef _ hS (Below.refl _ _) rfl _ (by (try simp only [e17, e14]); rfl)
    case o7tf =>
      intro f W1 hS hd K hK
      obtain ⟨e16, e18, e14, -⟩ := hd
      replace e16 : f 16 = undef := e16
      replace e18 : f 18 = undef := e18
      replace e14 : f 14 = .bool true := e14
      go_simp; exact hK.out undef _ hS (Below.refl _ _) rfl _ (by (try simp only [e16, e18, e14]); rfl)
    case o8tf =>
      intro f W1 hS hd K hK
      obtain ⟨e19, e14, -⟩ := hd
      replace e19 : f 19 = undef := e19
      replace e14 : f 14 = .bool true := e14
      go_simp; exact hK.out undef _ hS (Below.refl _ _) rfl _ (by (try simp only [e19, e14]); rfl)
    case o9tf =>
      intro f W1 hS hd K hK
      obtain ⟨e20, e14, -⟩ := hd
      replace e20 : f 20 = undef := e20
      replace e14 : f 14 = .bool true := e14
      go_simp; exact hK.out undef _ hS (Below.refl _ _) rfl _ (by (try simp only [e20, e14]); rfl)
    case o10tf =>
      intro f W1 hS hd K hK
      obtain ⟨e14, -⟩ := hd
      replace e14 : f 14 = .bool true := e14
      go_simp; exact hK.out undef _ hS (Below.refl _ _) rfl _ (by (try simp only [e14]); rfl)
    case o11tf =>
      intro f W1 hS hd K hK
      obtain ⟨e22, e14, -⟩ := hd
      replace e22 : f 22 = undef := e22
      replace e14 : f 14 = .bool true := e14
      go_simp; exact hK.out undef _ hS (Below.refl _ _) rfl _ (by (try simp only [e22, e14]); rfl)
    case o12tf =>
      intro f W1 hS hd K hK
      obtain ⟨e21, e23, e14, -⟩ := hd
      replace e21 : f 21 = undef := e21
      replace e23 : f 23 = undef := e23
      replace e14 : f 14 = .bool true := e14
      go_simp; exact hK.out undef _ hS (Below.refl _ _) rfl _ (by (try simp only [e21, e23, e14]); rfl)
    case o13tf =>
      intro f W1 hS hd K hK
      obtain ⟨e14, e24, -⟩ := hd
      replace e14 : f 14 = .bool true := e14
      replace e24 : f 24 = undef := e24
      (go_simp; first | exact hK.out (.bool true) _ hS (Below.refl _ _) rfl _ (by (try simp only [e14, e24]); rfl))
    case hendtf =>
      intro f W1 hS hr
      have e25 : f 25 = .bool true := hr 13 _ _ rfl rfl
      (try dsimp only)
      generalize f 25 = x25 at *
      subst e25
      go_wp2
      go_ret
      rw [HE2.out]
      exact ⟨rfl, hS.g.bel⟩
  · have HLF : Hid (tree_Tree_leaf.f t.f0 t.f1 t.f2 = some false) := Lib.hid (by unfold tree_Tree_leaf.f; rw [decide_eq_false hlf])
    have hft := fitT_in (HAT.out (Decidable.not_not.1 hne) (by omega))
    have hp0 : 0 ≤ t.f0 := hft.1
    have hp1 : t.f0 < (l3.length : Int) := hft.2.1
    have hS0 : InT w A0 c0 l0 A1 c1 l1 a2 A3 c3 l3 t T tc w2.drew := hI2.step (below_drew (Below.refl _ _))
    obtain ⟨ad, R2, rc2, eA, hx0, -, -, -⟩ := at_T32 hS0.g.r3 t.f0 hp0 hp1
    subst eA
    obtain ⟨q2, hq2⟩ : ∃ q2, q2 = (ruleAt l3 t.f0).f0 := ⟨_, rfl⟩
    rw [show (rd_T32 l3 t.f0).f0 = q2 from hq2.symm] at hx0
    have HE' : Hid (rs = if t.f0 < 0 ∨ q2 ≠ a2 then 10 else 0) := Lib.hid (by rw [hq2]; exact HE.out)
    replace hS0 := And.intro hS0 hx0
    clear hI2 hx0 hft hq2 HE
    by_cases hqa : q2 ≠ a2
    · have hqb : (q2 != a2) = true := bne_iff_ne.2 hqa
      have HE2 : Hid (rs = 10) := Lib.hid (HE'.out.trans (if_pos (Or.inr hqa)))
      clear hqa hlf hne
      go_wp2_with fail
      refine RegT.region (F := ?Fft) (fun W => InT w A0 c0 l0 A1 c1 l1 a2 (some ad) c3 l3 t T tc W ∧ W.cell? (ad.add (t.f0.toNat * 2)) = some (.int .i64 q2)) (fun i v _ => match i with | 0 => v = .agg #[.int .i64 t.f0, .int .i64 t.f1, .slice T t.f2.length tc] | 1 => v = .bool false | 2 => v = .bool false | 3 => v = .pointer (some ⟨w.heap.size, 3, none⟩) | 4 => v = .slice (some ad) l3.length c3 | 5 => v = .pointer (some ⟨w.heap.size + 1, 0, none⟩) | 6 => v = .int .i64 t.f0 | 7 => v = .pointer (some (ad.add (t.f0.toNat * 2))) | 8 => v = .pointer (some (ad.add (t.f0.toNat * 2))) | 9 => v = .int .i64 q2 | 10 => v = .pointer (some ⟨w.heap.size, 2, none⟩) | 11 => v = .int .i64 a2 | 12 => v = .bool true | 13 => v = .bool true | _ => True) ?hFft (by kernel_rfl) (by kernel_rfl) (by kernel_rfl) (by kernel_rfl) ?hRft ?hSft ⟨?o0ft, ?o1ft, ?o2ft, ?o3ft, ?o4ft, ?o5ft, ?o6ft, ?o7ft, ?o8ft, ?o9ft, ?o10ft, ?o11ft, ?o12ft, ?o13ft, trivial⟩ ?hendft
      case hFft => intro f; (try simp only [RegT.fillIn, RegT.fv, Act.put, List.setIfInBounds_toArray, List.set_cons_zero, List.set_cons_succ]); exact rfl
      case hRft => exact fun _ _ _ _ h _ => h
      case hSft => exact hS0
      case o0ft =>
        intro f W1 hS hd K hK
        clear hd
        have z2 := hS.1.g.c2
        have z3 := hS.1.g.c3
        have y0 := hS.1.t0
        have y1 := hS.1.t1
        have y2 := hS.1.t2
        have x0 := hS.2
        (go_simp; first | exact hK.out (.agg #[.int .i64 t.f0, .int .i64 t.f1, .slice T t.f2.length tc]) _ hS (Below.refl _ _) rfl _ (by rfl))
      case o1ft =>
        intro f W1 hS hd K hK
        obtain ⟨e12, -⟩ := hd
        replace e12 : f 12 = .agg #[.int .i64 t.f0, .int .i64 t.f1, .slice T t.f2.length tc] := e12
        go_simp
        go_at_call 100
        (with_reducible refine (tree_Tree_leaf.calls t.f0 t.f1 T tc t.f2 false _ hS.1.tr htc HLF.out).mono ?_)
        rintro e w' ⟨rfl, hb⟩
        have hS' := keep_root hb hS
        exact hK.out (.bool false) _ hS' hb rfl _ (by (try simp only [e12]); rfl)
      case o2ft =>
        intro f W1 hS hd K hK
        obtain ⟨e13, -, -⟩ := hd
        replace e13 : f 13 = .bool false := e13
        (go_simp; first | exact hK.out (.bool false) _ hS (Below.refl _ _) rfl _ (by (try simp only [e13]); rfl))
      case o3ft =>
        intro f W1 hS hd K hK
        obtain ⟨e14, -⟩ := hd
        replace e14 : f 14 = .bool false := e14
        (go_simp; first | exact hK.out (.pointer (some ⟨w.heap.size, 3, none⟩)) _ hS (Below.refl _ _) rfl _ (by (try simp only [e14]); rfl))
      case o4ft =>
        intro f W1 hS hd K hK
        obtain ⟨e15, e14, -⟩ := hd
        replace e15 : f 15 = .pointer (some ⟨w.heap.size, 3, none⟩) := e15
        replace e14 : f 14 = .bool false := e14
        have z2 := hS.1.g.c2
        have z3 := hS.1.g.c3
        have y0 := hS.1.t0
        have y1 := hS.1.t1
        have y2 := hS.1.t2
        have x0 := hS.2
        (go_simp; first | exact hK.out (.slice (some ad) l3.length c3) _ hS (Below.refl _ _) rfl _ (by (try simp only [e15, e14]); rfl))
      case o5ft =>
        intro f W1 hS hd K hK
        obtain ⟨e14, -⟩ := hd
        replace e14 : f 14 = .bool false := e14
        (go_simp; first | exact hK.out (.pointer (some ⟨w.heap.size + 1, 0, none⟩)) _ hS (Below.refl _ _) rfl _ (by (try simp only [e14]); rfl))
      case o6ft =>
        intro f W1 hS hd K hK
        obtain ⟨e17, e14, -⟩ := hd
        replace e17 : f 17 = .pointer (some ⟨w.heap.size + 1, 0, none⟩) := e17
        replace e14 : f 14 = .bool false := e14
        have z2 := hS.1.g.c2
        have z3 := hS.1.g.c3
        have y0 := hS.1.t0
        have y1 := hS.1.t1
        have y2 := hS.1.t2
        have x0 := hS.2
        (go_simp; first | exact hK.out (.int .i64 t.f0) _ hS (Below.refl _ _) rfl _ (by (try simp only [e17, e14]); rfl))
      case o7ft =>
        intro f W1 hS hd K hK
        obtain ⟨e16, e18, e14, -⟩ := hd
        replace e16 : f 16 = .slice (some ad) l3.length c3 := e16
        replace e18 : f 18 = .int .i64 t.f0 := e18
        replace e14 : f 14 = .bool false := e14
        (go_simp; first | exact hK.out (.pointer (some (ad.add (t.f0.toNat * 2)))) _ hS (Below.refl _ _) rfl _ (by (try simp only [e16, e18, e14]); rfl))
      case o8ft =>
        intro f W1 hS hd K hK
        obtain ⟨e19, e14, -⟩ := hd
        replace e19 : f 19 = .pointer (some (ad.add (t.f0.toNat * 2))) := e19
        replace e14 : f 14 = .bool false := e14
        (go_simp; first | exact hK.out (.pointer (some (ad.add (t.f0.toNat * 2)))) _ hS (Below.refl _ _) rfl _ (by (try simp only [e19, e14]); rfl))
      case o9ft =>
        intro f W1 hS hd K hK
        obtain ⟨e20, e14, -⟩ := hd
        replace e20 : f 20 = .pointer (some (ad.add (t.f0.toNat * 2))) := e20
        replace e14 : f 14 = .bool false := e14
        have z2 := hS.1.g.c2
        have z3 := hS.1.g.c3
        have y0 := hS.1.t0
        have y1 := hS.1.t1
        have y2 := hS.1.t2
        have x0 := hS.2
        (go_simp; first | exact hK.out (.int .i64 q2) _ hS (Below.refl _ _) rfl _ (by (try simp only [e20, e14]); rfl))
      case o10ft =>
        intro f W1 hS hd K hK
        obtain ⟨e14, -⟩ := hd
        replace e14 : f 14 = .bool false := e14
        (go_simp; first | exact hK.out (.pointer (some ⟨w.heap.size, 2, none⟩)) _ hS (Below.refl _ _) rfl _ (by (try simp only [e14]); rfl))
      case o11ft =>
        intro f W1 hS hd K hK
        obtain ⟨e22, e14, -⟩ := hd
        replace e22 : f 22 = .pointer (some ⟨w.heap.size, 2, none⟩) := e22
        replace e14 : f 14 = .bool false := e14
        have z2 := hS.1.g.c2
        have z3 := hS.1.g.c3
        have y0 := hS.1.t0
        have y1 := hS.1.t1
        have y2 := hS.1.t2
        have x0 := hS.2
        (go_simp; first | exact hK.out (.int .i64 a2) _ hS (Below.refl _ _) rfl _ (by (try simp only [e22, e14]); rfl))
      case o12ft =>
        intro f W1 hS hd K hK
        obtain ⟨e21, e23, e14, -⟩ := hd
        replace e21 : f 21 = .int .i64 q2 := e21
        replace e23 : f 23 = .int .i64 a2 := e23
        replace e14 : f 14 = .bool false := e14
        (go_simp; first | exact hK.out (.bool true) _ hS (Below.refl _ _) rfl _ (by (try simp only [e21, e23, e14]); rfl))
      case o13ft =>
        intro f W1 hS hd K hK
        obtain ⟨e14, e24, -⟩ := hd
        replace e14 : f 14 = .bool false := e14
        replace e24 : f 24 = .bool true := e24
        (go_simp; first | exact hK.out (.bool true) _ hS (Below.refl _ _) rfl _ (by (try simp only [e14, e24]); rfl))
      case hendft =>
        intro f W1 hS hr
        have e25 : f 25 = .bool true := hr 13 _ _ rfl rfl
        (try dsimp only)
        generalize f 25 = x25 at *
        subst e25
        go_wp2
        go_ret
        rw [HE2.out]
        exact ⟨rfl, hS.1.g.bel⟩
    · have hqb : (q2 != a2) = false := by rw [Decidable.not_not.1 hqa]; simp
      have HE2 : Hid (rs = 0) := Lib.hid (HE'.out.trans (if_neg (by omega)))
      clear hqa hlf hne
      go_wp2_with fail
      refine RegT.region (F := ?Fff) (fun W => InT w A0 c0 l0 A1 c1 l1 a2 (some ad) c3 l3 t T tc W ∧ W.cell? (ad.add (t.f0.toNat * 2)) = some (.int .i64 q2)) (fun i v _ => match i with | 0 => v = .agg #[.int .i64 t.f0, .int .i64 t.f1, .slice T t.f2.length tc] | 1 => v = .bool false | 2 => v = .bool false | 3 => v = .pointer (some ⟨w.heap.size, 3, none⟩) | 4 => v = .slice (some ad) l3.length c3 | 5 => v = .pointer (some ⟨w.heap.size + 1, 0, none⟩) | 6 => v = .int .i64 t.f0 | 7 => v = .pointer (some (ad.add (t.f0.toNat * 2))) | 8 => v = .pointer (some (ad.add (t.f0.toNat * 2))) | 9 => v = .int .i64 q2 | 10 => v = .pointer (some ⟨w.heap.size, 2, none⟩) | 11 => v = .int .i64 a2 | 12 => v = .bool false | 13 => v = .bool false | _ => True) ?hFff (by kernel_rfl) (by kernel_rfl) (by kernel_rfl) (by kernel_rfl) ?hRff ?hSff ⟨?o0ff, ?o1ff, ?o2ff, ?o3ff, ?o4ff, ?o5ff, ?o6ff, ?o7ff, ?o8ff, ?o9ff, ?o10ff, ?o11ff, ?o12ff, ?o13ff, trivial⟩ ?hendff
      case hFff => intro f; (try simp only [RegT.fillIn, RegT.fv, Act.put, List.setIfInBounds_toArray, List.set_cons_zero, List.set_cons_succ]); exact rfl
      case hRff => exact fun _ _ _ _ h _ => h
      case hSff => exact hS0
      case o0ff =>
        intro f W1 hS hd K hK
        clear hd
        have z2 := hS.1.g.c2
        have z3 := hS.1.g.c3
        have y0 := hS.1.t0
        have y1 := hS.1.t1
        have y2 := hS.1.t2
        have x0 := hS.2
        (go_simp; first | exact hK.out (.agg #[.int .i64 t.f0, .int .i64 t.f1, .slice T t.f2.length tc]) _ hS (Below.refl _ _) rfl _ (by rfl))
      case o1ff =>
        intro f W1 hS hd K hK
        obtain ⟨e12, -⟩ := hd
        replace e12 : f 12 = .agg #[.int .i64 t.f0, .int .i64 t.f1, .slice T t.f2.length tc] := e12
        go_simp
        go_at_call 100
        (with_reducible refine (tree_Tree_leaf.calls t.f0 t.f1 T tc t.f2 false _ hS.1.tr htc HLF.out).mono ?_)
        rintro e w' ⟨rfl, hb⟩
        have hS' := keep_root hb hS
        exact hK.out (.bool false) _ hS' hb rfl _ (by (try simp only [e12]); rfl)
      case o2ff =>
        intro f W1 hS hd K hK
        obtain ⟨e13, -, -⟩ := hd
        replace e13 : f 13 = .bool false := e13
        (go_simp; first | exact hK.out (.bool false) _ hS (Below.refl _ _) rfl _ (by (try simp only [e13]); rfl))
      case o3ff =>
        intro f W1 hS hd K hK
        obtain ⟨e14, -⟩ := hd
        replace e14 : f 14 = .bool false := e14
        (go_simp; first | exact hK.out (.pointer (some ⟨w.heap.size, 3, none⟩)) _ hS (Below.refl _ _) rfl _ (by (try simp only [e14]); rfl))
      case o4ff =>
        intro f W1 hS hd K hK
        obtain ⟨e15, e14, -⟩ := hd
        replace e15 : f 15 = .pointer (some ⟨w.heap.size, 3, none⟩) := e15
        replace e14 : f 14 = .bool false := e14
        have z2 := hS.1.g.c2
        have z3 := hS.1.g.c3
        have y0 := hS.1.t0
        have y1 := hS.1.t1
        have y2 := hS.1.t2
        have x0 := hS.2
        (go_simp; first | exact hK.out (.slice (some ad) l3.length c3) _ hS (Below.refl _ _) rfl _ (by (try simp only [e15, e14]); rfl))
      case o5ff =>
        intro f W1 hS hd K hK
        obtain ⟨e14, -⟩ := hd
        replace e14 : f 14 = .bool false := e14
        (go_simp; first | exact hK.out (.pointer (some ⟨w.heap.size + 1, 0, none⟩)) _ hS (Below.refl _ _) rfl _ (by (try simp only [e14]); rfl))
      case o6ff =>
        intro f W1 hS hd K hK
        obtain ⟨e17, e14, -⟩ := hd
        replace e17 : f 17 = .pointer (some ⟨w.heap.size + 1, 0, none⟩) := e17
        replace e14 : f 14 = .bool false := e14
        have z2 := hS.1.g.c2
        have z3 := hS.1.g.c3
        have y0 := hS.1.t0
        have y1 := hS.1.t1
        have y2 := hS.1.t2
        have x0 := hS.2
        (go_simp; first | exact hK.out (.int .i64 t.f0) _ hS (Below.refl _ _) rfl _ (by (try simp only [e17, e14]); rfl))
      case o7ff =>
        intro f W1 hS hd K hK
        obtain ⟨e16, e18, e14, -⟩ := hd
        replace e16 : f 16 = .slice (some ad) l3.length c3 := e16
        replace e18 : f 18 = .int .i64 t.f0 := e18
        replace e14 : f 14 = .bool false := e14
        (go_simp; first | exact hK.out (.pointer (some (ad.add (t.f0.toNat * 2)))) _ hS (Below.refl _ _) rfl _ (by (try simp only [e16, e18, e14]); rfl))
      case o8ff =>
        intro f W1 hS hd K hK
        obtain ⟨e19, e14, -⟩ := hd
        replace e19 : f 19 = .pointer (some (ad.add (t.f0.toNat * 2))) := e19
        replace e14 : f 14 = .bool false := e14
        (go_simp; first | exact hK.out (.pointer (some (ad.add (t.f0.toNat * 2)))) _ hS (Below.refl _ _) rfl _ (by (try simp only [e19, e14]); rfl))
      case o9ff =>
        intro f W1 hS hd K hK
        obtain ⟨e20, e14, -⟩ := hd
        replace e20 : f 20 = .pointer (some (ad.add (t.f0.toNat * 2))) := e20
        replace e14 : f 14 = .bool false := e14
        have z2 := hS.1.g.c2
        have z3 := hS.1.g.c3
        have y0 := hS.1.t0
        have y1 := hS.1.t1
        have y2 := hS.1.t2
        have x0 := hS.2
        (go_simp; first | exact hK.out (.int .i64 q2) _ hS (Below.refl _ _) rfl _ (by (try simp only [e20, e14]); rfl))
      case o10ff =>
        intro f W1 hS hd K hK
        obtain ⟨e14, -⟩ := hd
        replace e14 : f 14 = .bool false := e14
        (go_simp; first | exact hK.out (.pointer (some ⟨w.heap.size, 2, none⟩)) _ hS (Below.refl _ _) rfl _ (by (try simp only [e14]); rfl))
      case o11ff =>
        intro f W1 hS hd K hK
        obtain ⟨e22, e14, -⟩ := hd
        replace e22 : f 22 = .pointer (some ⟨w.heap.size, 2, none⟩) := e22
        replace e14 : f 14 = .bool false := e14
        have z2 := hS.1.g.c2
        have z3 := hS.1.g.c3
        have y0 := hS.1.t0
        have y1 := hS.1.t1
        have y2 := hS.1.t2
        have x0 := hS.2
        (go_simp; first | exact hK.out (.int .i64 a2) _ hS (Below.refl _ _) rfl _ (by (try simp only [e22, e14]); rfl))
      case o12ff =>
        intro f W1 hS hd K hK
        obtain ⟨e21, e23, e14, -⟩ := hd
        replace e21 : f 21 = .int .i64 q2 := e21
        replace e23 : f 23 = .int .i64 a2 := e23
        replace e14 : f 14 = .bool false := e14
        (go_simp; first | exact hK.out (.bool false) _ hS (Below.refl _ _) rfl _ (by (try simp only [e21, e23, e14]); rfl))
      case o13ff =>
        intro f W1 hS hd K hK
        obtain ⟨e14, e24, -⟩ := hd
        replace e14 : f 14 = .bool false := e14
        replace e24 : f 24 = .bool false := e24
        (go_simp; first | exact hK.out (.bool false) _ hS (Below.refl _ _) rfl _ (by (try simp only [e14, e24]); rfl))
      case hendff =>
        intro f W1 hS hr
        have e25 : f 25 = .bool false := hr 13 _ _ rfl rfl
        (try dsimp only)
        generalize f 25 = x25 at *
        subst e25
        go_wp2
        go_ret
        rw [HE2.out]
        exact ⟨rfl, hS.1.g.bel⟩
end Go.Proofs.YtmdjmbdeeodehaaDoor.G
end
