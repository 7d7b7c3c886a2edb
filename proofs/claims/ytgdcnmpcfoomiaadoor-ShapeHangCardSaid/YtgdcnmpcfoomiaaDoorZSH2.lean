/- Chomsky's form is no empty, no unit, short and lifted together; Greibach's is no empty and no unit; without rules all forms hold.: part 3 of 4 of its proof, packed by a program of this session out of the texts GLaw021, GramS, OpenG, GramN, GShape1, ShapeW, GShapeShort, GShapeLifted, GShapeChomsky, GShapeGreibach. -/
import Derived.Test.YtgdcnmpcfoomiaaDoorZSH1
import Derived.Lib.SmallJoins
import Derived.SizedLaws
section
namespace Go.Proofs.YtgdcnmpcfoomiaaDoor.G
open Go.RowKit Go.Proofs.YtgdcnmpcfoomiaaDoorW.PrintWords Go.Proofs.YtgdcnmpcfoomiaaDoorW.PrintLast Go.Proofs.YtgdcnmpcfoomiaaDoorW.PrintMore
attribute [local go_sem] max2_int min2_int max_two min_two max_three min_three max_four min_four
attribute [local go_sem] Go.Proofs.YtgdcnmpcfoomiaaDoorOwn.isSome_setCell
set_option linter.unusedVariables false
set_option linter.unusedSimpArgs false
mutual
def wickerlaw02_Small.l0 : Nat → Int → List (S35) → Int → Int → List ByteArray → List ByteArray → Int → List (S35) → Option (Bool)
 | 0, _, _, _, _, _, _, _, _ => none
 | k + 1, x3, x11, x12, x13, x102000, x102001, x102002, x102003 => if x13 < x12 then (if 0 ≤ x13 then (if x13 < (x11.length : Int) then (wickerlaw02_Small.l0 k (wrap64 (x3 + (wrap64 (1 + (((rd_T35 x11 x13).f1).length : Int))))) x11 x12 (wrap64 (x13 + 1)) x102000 x102001 x102002 x102003) else (none)) else (none)) else (wickerlaw02_Small.l1 k x3 x102000 (x102000.length : Int) 0 x102000 x102001 x102002 x102003)
def wickerlaw02_Small.l1 : Nat → Int → List ByteArray → Int → Int → List ByteArray → List ByteArray → Int → List (S35) → Option (Bool)
 | 0, _, _, _, _, _, _, _, _ => none
 | k + 1, x3, x25, x26, x27, x102000, x102001, x102002, x102003 => if x27 < x26 then (if 0 ≤ x27 then (if x27 < (x25.length : Int) then (wickerlaw02_Small.l1 k (wrap64 (x3 + (wrap64 (((rdOf ByteArray.empty x25 x27).size : Int) / 16)))) x25 x26 (wrap64 (x27 + 1)) x102000 x102001 x102002 x102003) else (none)) else (none)) else (wickerlaw02_Small.l2 k x3 x102001 (x102001.length : Int) 0 x102000 x102001 x102002 x102003)
def wickerlaw02_Small.l2 : Nat → Int → List ByteArray → Int → Int → List ByteArray → List ByteArray → Int → List (S35) → Option (Bool)
 | 0, _, _, _, _, _, _, _, _ => none
 | k + 1, x3, x38, x39, x40, x102000, x102001, x102002, x102003 => if x40 < x39 then (if 0 ≤ x40 then (if x40 < (x38.length : Int) then (wickerlaw02_Small.l2 k (wrap64 (x3 + (wrap64 (((rdOf ByteArray.empty x38 x40).size : Int) / 16)))) x38 x39 (wrap64 (x40 + 1)) x102000 x102001 x102002 x102003) else (none)) else (none)) else (if x3 ≤ 600 then (if (x102000.length : Int) ≤ 60 then (if (x102001.length : Int) ≤ 60 then (some (decide ((x102003.length : Int) ≤ 120))) else (some false)) else (some false)) else (some false))
end
def wickerlaw02_Small.f (k : Nat) (l0_0 : List ByteArray) (l0_1 : List ByteArray) (a0_2 : Int) (l0_3 : List (S35)) : Option (Bool) := wickerlaw02_Small.l0 k 0 l0_3 (l0_3.length : Int) 0 l0_0 l0_1 a0_2 l0_3
set_option maxHeartbeats 8000000 in
set_option maxRecDepth 100000 in
theorem wickerlaw02_Small.calls (k : Nat) (A0_0 : Option Addr) (c0_0 : Nat) (l0_0 : List ByteArray) (A0_1 : Option Addr) (c0_1 : Nat) (l0_1 : List ByteArray) (a0_2 : Int) (A0_3 : Option Addr) (c0_3 : Nat) (l0_3 : List (S35)) (r : Bool) (w : World) (hr0_0 : Kd.C Kd.string w A0_0 l0_0.length l0_0) (hc0_0 : l0_0.length ≤ c0_0) (hr0_1 : Kd.C Kd.string w A0_1 l0_1.length l0_1) (hc0_1 : l0_1.length ≤ c0_1) (hr0_3 : Kd.C k35 w A0_3 l0_3.length l0_3) (hc0_3 : l0_3.length ≤ c0_3) (h : wickerlaw02_Small.f k l0_0 l0_1 a0_2 l0_3 = some r) :
  Calls Tryd.prog 9 #[.agg #[.slice A0_0 l0_0.length c0_0, .slice A0_1 l0_1.length c0_1, .int .i64 a0_2, .slice A0_3 l0_3.length c0_3]] w fun e w' => e = .returned (.bool r) ∧ Below w.heap.size w w' := by
 have hu25 := Tryd.underlying25
 have hu35 := Tryd.underlying35
 have HR0_0 := Aside0.mk hr0_0
 have HC0_0 := Aside0.mk hc0_0
 clear hr0_0 hc0_0
 have HR0_1 := Aside0.mk hr0_1
 have HC0_1 := Aside0.mk hc0_1
 clear hr0_1 hc0_1
 have HR0_3 := Aside0.mk hr0_3
 have HC0_3 := Aside0.mk hc0_3
 clear hr0_3 hc0_3
 have HB := Aside0.mk (Below.refl w.heap.size w)
 have H : (wickerlaw02_Small.l0 k 0 l0_3 (l0_3.length : Int) 0 l0_0 l0_1 a0_2 l0_3) = some r := h
 clear h
 have H' := Aside0.mk H
 clear H
 go_enter Tryd.func9, Tryd.ntmps9
 go_wp2_with (first | ((with_reducible refine gate_dst (N := 1) rfl ?_); (try (refine gate_guard (by rfl) ?_; dsimp only)); refine box_event ?hg (N := 1) ?hd (cs := #[.slice A0_0 l0_0.length c0_0, .slice A0_1 l0_1.length c0_1, .int .i64 a0_2, .slice A0_3 l0_3.length c0_3]) (t := 25) ?hr ?_; (case hd => rfl); (case hg => rfl); (case hr => first | (go_simp; done) | (go_simp; rfl)); intro gb101 hg w2 hbox hb; have n0_ := Aside0.mk (below_step (by repeat (first | (with_reducible first | exact HB.out | apply below_alloc | apply pw_below_drewN | apply below_drew1) | exact HB.out)) hb); have n1_ := Aside0.mk (hbox); have n2_ := Aside0.mk ((by rw [hg]; exact (below_size (by repeat (first | (with_reducible first | exact HB.out | apply below_alloc | apply pw_below_drewN | apply below_drew1) | exact HB.out))) : w.heap.size ≤ gb101)); have n3_ := Aside0.mk ((by rw [hg]; exact (below_size (by repeat (first | (with_reducible first | exact HB.out | apply below_alloc | apply pw_below_drewN | apply below_drew1) | exact HB.out))) : w.heap.size ≤ gb101)); clear HB; have HB := n0_; have BK101 := n1_; have GW101 := n2_; have GE101 := n3_; clear n0_ n1_ n2_ n3_; clear hb hbox hg; have hcz3_0 : w2.cell? ⟨gb101, 0, none⟩ = some (.slice A0_0 l0_0.length c0_0) := (blk_cell BK101.out 0).trans rfl; have hcz3_1 : w2.cell? ⟨gb101, 1, none⟩ = some (.slice A0_1 l0_1.length c0_1) := (blk_cell BK101.out 1).trans rfl; have hcz3_2 : w2.cell? ⟨gb101, 2, none⟩ = some (.int .i64 a0_2) := (blk_cell BK101.out 2).trans rfl; have hcz3_3 : w2.cell? ⟨gb101, 3, none⟩ = some (.slice A0_3 l0_3.length c0_3) := (blk_cell BK101.out 3).trans rfl; have hfz3_0 := blk_frozen BK101.out 0; have hfz3_1 := blk_frozen BK101.out 1; have hfz3_2 := blk_frozen BK101.out 2; have hfz3_3 := blk_frozen BK101.out 3))
 go_loopg [3, 13] k (fun kq v3 v13 w' => ∃ (x3_1 : Int) (x13_1 : Int), v3 = .int .i64 x3_1 ∧ v13 = .int .i64 x13_1 ∧ Aside0 (wickerlaw02_Small.l0 kq x3_1 l0_3 (l0_3.length : Int) x13_1 l0_0 l0_1 a0_2 l0_3 = some r) ∧ Aside0 (kq ≤ k) ∧ Aside0 (w'.heap[gb101]? = some (.cells #[(.slice A0_0 l0_0.length c0_0), (.slice A0_1 l0_1.length c0_1), .int .i64 a0_2, (.slice A0_3 l0_3.length c0_3)] 25 (0, 0))) ∧ Aside0 (Below w.heap.size w w'))
 case atStart => exact ⟨(0), (0), (by first | rfl | (simp; done) | (simp [*]; done)), (by first | rfl | (simp; done) | (simp [*]; done)), H', ⟨Nat.le_refl _⟩, ⟨by (with_reducible repeat (first | refine blk_drewN ?_ _ | refine blk_drew ?_ | refine blk_alloc ?_ _)); exact BK101.out⟩, ⟨by repeat (first | (with_reducible first | exact HB.out | apply below_alloc | apply pw_below_drewN | apply below_drew1 | refine below_set ?_ GE101.out) | exact HB.out)⟩⟩
 case round =>
  clear H'
  try clear p2
  try clear hcz3_0
  try clear hcz3_1
  try clear hcz3_2
  try clear hcz3_3
  try clear hfz3_0
  try clear hfz3_1
  try clear hfz3_2
  try clear hfz3_3
  obtain ⟨x3_1, x13_1, rfl, rfl, HA, HK1, BK101, HB⟩ := hrel
  cases gk with
  | zero => exact absurd HA.out (by simp [wickerlaw02_Small.l0])
  | succ k1 =>
   have H := HA.out
   clear HA
   simp only [wickerlaw02_Small.l0] at H
   by_cases c4 : x13_1 < (l0_3.length : Int)
   ·rw [if_pos c4] at H
    have c4b0 : decide (x13_1 < (l0_3.length : Int)) = true := decide_eq_true c4
    clear c4
    by_cases c5 : 0 ≤ x13_1
    ·rw [if_pos c5] at H
     have c5b0 : decide (0 ≤ x13_1) = true := decide_eq_true c5
     clear c5
     by_cases c6 : x13_1 < (l0_3.length : Int)
     ·rw [if_pos c6] at H
      have c6b0 : decide (x13_1 < (l0_3.length : Int)) = true := decide_eq_true c6
      clear c6
      have H' := Aside0.mk H
      clear H
      have p102 : 0 ≤ (x13_1 : Int) := of_decide_eq_true (by first | (with_reducible assumption) | assumption)
      have q102 : x13_1 < (l0_3.length : Int) := of_decide_eq_true (by first | (with_reducible assumption) | assumption)
      obtain ⟨ad102, A102_1, c102_1, e102, hx102_0, hx102_1, hl102_1, hi102_1⟩ := at_T35 HR0_3.out x13_1 p102 q102
      cases e102
      replace hx102_0 := (HB.out.cell (World.block_lt_of_cell? w _ hx102_0)).trans hx102_0
      replace hx102_1 := (HB.out.cell (World.block_lt_of_cell? w _ hx102_1)).trans hx102_1
      have HR102_1 := Aside0.mk hi102_1
      have HC102_1 := Aside0.mk hl102_1
      clear hi102_1 hl102_1
      replace p102 := eq_true p102
      replace q102 := eq_true q102
      go_wp2_with (first | ((with_reducible refine gate_dst (N := 5) rfl ?_); (try (refine gate_guard (by rfl) ?_; dsimp only)); refine box_event ?hg (N := 5) ?hd (cs := #[.int .i64 0, .slice none 0 0]) (t := 35) ?hr ?_; (case hd => rfl); (case hg => rfl); (case hr => first | (go_simp; done) | (go_simp; rfl)); intro gb103 hg w7 hbox hb; have n0_ := Aside0.mk (blk_below (g := gb101) (o := .cells #[.slice A0_0 l0_0.length c0_0, .slice A0_1 l0_1.length c0_1, .int .i64 a0_2, .slice (some ad102) l0_3.length c0_3] 25 (0, 0)) (by (with_reducible repeat (first | refine blk_drewN ?_ _ | refine blk_drew ?_ | refine blk_alloc ?_ _)); exact BK101.out) hb); have n1_ := Aside0.mk (below_step (by repeat (first | (with_reducible first | exact HB.out | apply below_alloc | apply pw_below_drewN | apply below_drew1 | refine below_set ?_ GE101.out) | exact HB.out)) hb); have n2_ := Aside0.mk (hbox); have n3_ := Aside0.mk ((by rw [hg]; exact (below_size (by repeat (first | (with_reducible first | exact HB.out | apply below_alloc | apply pw_below_drewN | apply below_drew1 | refine below_set ?_ GE101.out) | exact HB.out))) : w.heap.size ≤ gb103)); have n4_ := Aside0.mk ((by rw [hg]; exact (below_size (by repeat (first | (with_reducible first | exact HB.out | apply below_alloc | apply pw_below_drewN | apply below_drew1 | refine below_set ?_ GE101.out) | exact HB.out))) : w.heap.size ≤ gb103)); have n5_ := Aside0.mk ((by rw [hg]; exact Nat.ne_of_lt (blk_lt (g := gb101) (o := .cells #[.slice A0_0 l0_0.length c0_0, .slice A0_1 l0_1.length c0_1, .int .i64 a0_2, .slice (some ad102) l0_3.length c0_3] 25 (0, 0)) (by (with_reducible repeat (first | refine blk_drewN ?_ _ | refine blk_drew ?_ | refine blk_alloc ?_ _)); exact BK101.out)) : gb101 ≠ gb103)); have n6_ := Aside0.mk ((by rw [hg]; exact Nat.ne_of_gt (blk_lt (g := gb101) (o := .cells #[.slice A0_0 l0_0.length c0_0, .slice A0_1 l0_1.length c0_1, .int .i64 a0_2, .slice (some ad102) l0_3.length c0_3] 25 (0, 0)) (by (with_reducible repeat (first | refine blk_drewN ?_ _ | refine blk_drew ?_ | refine blk_alloc ?_ _)); exact BK101.out)) : gb103 ≠ gb101)); clear BK101; clear HB; have BK101 := n0_; have HB := n1_; have BK103 := n2_; have GW103 := n3_; have GE103 := n4_; have NB101_103 := n5_; have NB103_101 := n6_; clear n0_ n1_ n2_ n3_ n4_ n5_ n6_; clear hb hbox hg; have hnb8 := NB103_101.out; have hnc8 := NB101_103.out; have hcz9_0 : w7.cell? ⟨gb103, 0, none⟩ = some (.int .i64 0) := (blk_cell BK103.out 0).trans rfl; have hcz9_1 : w7.cell? ⟨gb103, 1, none⟩ = some (.slice none 0 0) := (blk_cell BK103.out 1).trans rfl; have hfz9_0 := blk_frozen BK103.out 0; have hfz9_1 := blk_frozen BK103.out 1))
      go_roundg k1
      case measure => have := HK1.out; omega
      case rel => exact ⟨(wrap64 (x3_1 + (wrap64 (1 + (((rd_T35 l0_3 x13_1).f1).length : Int))))), (wrap64 (x13_1 + 1)), (by first | rfl | (simp; done) | (simp [*]; done)), (by first | rfl | (simp; done) | (simp [*]; done)), H', ⟨by have := HK1.out; omega⟩, ⟨by (with_reducible repeat (first | refine blk_drewN ?_ _ | refine blk_drew ?_ | refine blk_alloc ?_ _)); refine blk_far ?_ NB101_103.out _; (with_reducible repeat (first | refine blk_drewN ?_ _ | refine blk_drew ?_ | refine blk_alloc ?_ _)); refine blk_far ?_ NB101_103.out _; (with_reducible repeat (first | refine blk_drewN ?_ _ | refine blk_drew ?_ | refine blk_alloc ?_ _)); exact BK101.out⟩, ⟨by repeat (first | (with_reducible first | exact HB.out | apply below_alloc | apply pw_below_drewN | apply below_drew1 | refine below_set ?_ GE101.out | refine below_set ?_ GE103.out) | exact HB.out)⟩⟩
     ·rw [if_neg c6] at H
      exact absurd H (by simp)
    ·rw [if_neg c5] at H
     exact absurd H (by simp)
   ·rw [if_neg c4] at H
    have c4b0 : decide (x13_1 < (l0_3.length : Int)) = false := decide_eq_false c4
    clear c4
    have H' := Aside0.mk H
    clear H
    have hcz10_0 : wr.cell? ⟨gb101, 0, none⟩ = some (.slice A0_0 l0_0.length c0_0) := (blk_cell BK101.out 0).trans rfl
    have hcz10_1 : wr.cell? ⟨gb101, 1, none⟩ = some (.slice A0_1 l0_1.length c0_1) := (blk_cell BK101.out 1).trans rfl
    have hcz10_2 : wr.cell? ⟨gb101, 2, none⟩ = some (.int .i64 a0_2) := (blk_cell BK101.out 2).trans rfl
    have hcz10_3 : wr.cell? ⟨gb101, 3, none⟩ = some (.slice A0_3 l0_3.length c0_3) := (blk_cell BK101.out 3).trans rfl
    have hfz10_0 := blk_frozen BK101.out 0
    have hfz10_1 := blk_frozen BK101.out 1
    have hfz10_2 := blk_frozen BK101.out 2
    have hfz10_3 := blk_frozen BK101.out 3
    go_wp2
    go_loopg [3, 27] k1 (fun kq v3 v27 w' => ∃ (x3_2 : Int) (x27_2 : Int), v3 = .int .i64 x3_2 ∧ v27 = .int .i64 x27_2 ∧ Aside0 (wickerlaw02_Small.l1 kq x3_2 l0_0 (l0_0.length : Int) x27_2 l0_0 l0_1 a0_2 l0_3 = some r) ∧ Aside0 (kq ≤ k1) ∧ Aside0 (w'.heap[gb101]? = some (.cells #[(.slice A0_0 l0_0.length c0_0), (.slice A0_1 l0_1.length c0_1), .int .i64 a0_2, (.slice A0_3 l0_3.length c0_3)] 25 (0, 0))) ∧ Aside0 (Below w.heap.size w w'))
    case atStart => exact ⟨(x3_1), (0), (by first | rfl | (simp; done) | (simp [*]; done)), (by first | rfl | (simp; done) | (simp [*]; done)), H', ⟨Nat.le_refl _⟩, ⟨by (with_reducible repeat (first | refine blk_drewN ?_ _ | refine blk_drew ?_ | refine blk_alloc ?_ _)); exact BK101.out⟩, ⟨by repeat (first | (with_reducible first | exact HB.out | apply below_alloc | apply pw_below_drewN | apply below_drew1 | refine below_set ?_ GE101.out) | exact HB.out)⟩⟩
    case round =>
     clear H'
     try clear c1
     try clear p1
     try clear q1
     try clear hx1
     try clear p2
     try clear c4
     try clear c4b0
     try clear c5
     try clear c5b0
     try clear c6
     try clear c6b0
     try clear p6
     try clear c8
     try clear c9
     try clear c10
     try clear p10
     try clear q10
     try clear hx10
     try clear hcz10_0
     try clear hcz10_1
     try clear hcz10_2
     try clear hcz10_3
     try clear hcz3_0
     try clear hcz3_1
     try clear hcz3_2
     try clear hcz3_3
     try clear hcz9_0
     try clear hcz9_1
     try clear hfz10_0
     try clear hfz10_1
     try clear hfz10_2
     try clear hfz10_3
     try clear hfz3_0
     try clear hfz3_1
     try clear hfz3_2
     try clear hfz3_3
     try clear hfz9_0
     try clear hfz9_1
     try clear hx102_0
     try clear hx102_1
     try clear p102
     try clear p2
     try clear q102
     obtain ⟨x3_2, x27_2, rfl, rfl, HA, HK2, BK101, HB⟩ := hrel
     cases gk with
     | zero => exact absurd HA.out (by simp [wickerlaw02_Small.l1])
     | succ k2 =>
      have H := HA.out
      clear HA
      simp only [wickerlaw02_Small.l1] at H
      by_cases c11 : x27_2 < (l0_0.length : Int)
      ·rw [if_pos c11] at H
       have c11b0 : decide (x27_2 < (l0_0.length : Int)) = true := decide_eq_true c11
       clear c11
       by_cases c12 : 0 ≤ x27_2
       ·rw [if_pos c12] at H
        have c12b0 : decide (0 ≤ x27_2) = true := decide_eq_true c12
        clear c12
        by_cases c13 : x27_2 < (l0_0.length : Int)
        ·rw [if_pos c13] at H
         have c13b0 : decide (x27_2 < (l0_0.length : Int)) = true := decide_eq_true c13
         clear c13
         have H' := Aside0.mk H
         clear H
         have p104 : 0 ≤ (x27_2 : Int) := of_decide_eq_true (by first | (with_reducible assumption) | assumption)
         have q104 : x27_2 < (l0_0.length : Int) := of_decide_eq_true (by first | (with_reducible assumption) | assumption)
         obtain ⟨ad104, e104, hx104_0⟩ := Kd.at_string HR0_0.out x27_2 p104 q104
         cases e104
         replace hx104_0 := (HB.out.cell (World.block_lt_of_cell? w _ hx104_0)).trans hx104_0
         replace p104 := eq_true p104
         replace q104 := eq_true q104
         go_wp2
         go_roundg k2
         case measure => have := HK1.out; have := HK2.out; omega
         case rel => exact ⟨(wrap64 (x3_2 + (wrap64 (((rdOf ByteArray.empty l0_0 x27_2).size : Int) / 16)))), (wrap64 (x27_2 + 1)), (by first | rfl | (simp; done) | (simp [*]; done)), (by first | rfl | (simp; done) | (simp [*]; done)), H', ⟨by have := HK1.out; have := HK2.out; omega⟩, ⟨by (with_reducible repeat (first | refine blk_drewN ?_ _ | refine blk_drew ?_ | refine blk_alloc ?_ _)); exact BK101.out⟩, ⟨by repeat (first | (with_reducible first | exact HB.out | apply below_alloc | apply pw_below_drewN | apply below_drew1 | refine below_set ?_ GE101.out) | exact HB.out)⟩⟩
        ·rw [if_neg c13] at H
         exact absurd H (by simp)
       ·rw [if_neg c12] at H
        exact absurd H (by simp)
      ·rw [if_neg c11] at H
       have c11b0 : decide (x27_2 < (l0_0.length : Int)) = false := decide_eq_false c11
       clear c11
       have H' := Aside0.mk H
       clear H
       have hcz14_0 : wr.cell? ⟨gb101, 0, none⟩ = some (.slice A0_0 l0_0.length c0_0) := (blk_cell BK101.out 0).trans rfl
       have hcz14_1 : wr.cell? ⟨gb101, 1, none⟩ = some (.slice A0_1 l0_1.length c0_1) := (blk_cell BK101.out 1).trans rfl
       have hcz14_2 : wr.cell? ⟨gb101, 2, none⟩ = some (.int .i64 a0_2) := (blk_cell BK101.out 2).trans rfl
       have hcz14_3 : wr.cell? ⟨gb101, 3, none⟩ = some (.slice A0_3 l0_3.length c0_3) := (blk_cell BK101.out 3).trans rfl
       have hfz14_0 := blk_frozen BK101.out 0
       have hfz14_1 := blk_frozen BK101.out 1
       have hfz14_2 := blk_frozen BK101.out 2
       have hfz14_3 := blk_frozen BK101.out 3
       go_wp2
       go_loopg [3, 40] k2 (fun kq v3 v40 w' => ∃ (x3_3 : Int) (x40_3 : Int), v3 = .int .i64 x3_3 ∧ v40 = .int .i64 x40_3 ∧ Aside0 (wickerlaw02_Small.l2 kq x3_3 l0_1 (l0_1.length : Int) x40_3 l0_0 l0_1 a0_2 l0_3 = some r) ∧ Aside0 (kq ≤ k2) ∧ Aside0 (w'.heap[gb101]? = some (.cells #[(.slice A0_0 l0_0.length c0_0), (.slice A0_1 l0_1.length c0_1), .int .i64 a0_2, (.slice A0_3 l0_3.length c0_3)] 25 (0, 0))) ∧ Aside0 (Below w.heap.size w w'))
       case atStart => exact ⟨(x3_2), (0), (by first | rfl | (simp; done) | (simp [*]; done)), (by first | rfl | (simp; done) | (simp [*]; done)), H', ⟨Nat.le_refl _⟩, ⟨by (with_reducible repeat (first | refine blk_drewN ?_ _ | refine blk_drew ?_ | refine blk_alloc ?_ _)); exact BK101.out⟩, ⟨by repeat (first | (with_reducible first | exact HB.out | apply below_alloc | apply pw_below_drewN | apply below_drew1 | refine below_set ?_ GE101.out) | exact HB.out)⟩⟩
       case round =>
        clear H'
        try clear c1
        try clear p1
        try clear q1
        try clear hx1
        try clear p2
        try clear c4
        try clear c4b0
        try clear c5
        try clear c5b0
        try clear c6
        try clear c6b0
        try clear p6
        try clear c8
        try clear c9
        try clear c10
        try clear p10
        try clear q10
        try clear hx10
        try clear c11
        try clear c11b0
        try clear c12
        try clear c12b0
        try clear c13
        try clear c13b0
        try clear hcz10_0
        try clear hcz10_1
        try clear hcz10_2
        try clear hcz10_3
        try clear hcz14_0
        try clear hcz14_1
        try clear hcz14_2
        try clear hcz14_3
        try clear hcz3_0
        try clear hcz3_1
        try clear hcz3_2
        try clear hcz3_3
        try clear hcz9_0
        try clear hcz9_1
        try clear hfz10_0
        try clear hfz10_1
        try clear hfz10_2
        try clear hfz10_3
        try clear hfz14_0
        try clear hfz14_1
        try clear hfz14_2
        try clear hfz14_3
        try clear hfz3_0
        try clear hfz3_1
        try clear hfz3_2
        try clear hfz3_3
        try clear hfz9_0
        try clear hfz9_1
        try clear hx102_0
        try clear hx102_1
        try clear hx104_0
        try clear p1
        try clear p10
        try clear p102
        try clear p104
        try clear p2
        try clear p6
        try clear q1
        try clear q10
        try clear q102
        try clear q104
        obtain ⟨x3_3, x40_3, rfl, rfl, HA, HK3, BK101, HB⟩ := hrel
        cases gk with
        | zero => exact absurd HA.out (by simp [wickerlaw02_Small.l2])
        | succ k3 =>
         have H := HA.out
         clear HA
         simp only [wickerlaw02_Small.l2] at H
         by_cases c15 : x40_3 < (l0_1.length : Int)
         ·rw [if_pos c15] at H
          have c15b0 : decide (x40_3 < (l0_1.length : Int)) = true := decide_eq_true c15
          clear c15
          by_cases c16 : 0 ≤ x40_3
          ·rw [if_pos c16] at H
           have c16b0 : decide (0 ≤ x40_3) = true := decide_eq_true c16
           clear c16
           by_cases c17 : x40_3 < (l0_1.length : Int)
           ·rw [if_pos c17] at H
            have c17b0 : decide (x40_3 < (l0_1.length : Int)) = true := decide_eq_true c17
            clear c17
            have H' := Aside0.mk H
            clear H
            have p105 : 0 ≤ (x40_3 : Int) := of_decide_eq_true (by first | (with_reducible assumption) | assumption)
            have q105 : x40_3 < (l0_1.length : Int) := of_decide_eq_true (by first | (with_reducible assumption) | assumption)
            obtain ⟨ad105, e105, hx105_0⟩ := Kd.at_string HR0_1.out x40_3 p105 q105
            cases e105
            replace hx105_0 := (HB.out.cell (World.block_lt_of_cell? w _ hx105_0)).trans hx105_0
            replace p105 := eq_true p105
            replace q105 := eq_true q105
            go_wp2
            go_roundg k3
            case measure => have := HK1.out; have := HK2.out; have := HK3.out; omega
            case rel => exact ⟨(wrap64 (x3_3 + (wrap64 (((rdOf ByteArray.empty l0_1 x40_3).size : Int) / 16)))), (wrap64 (x40_3 + 1)), (by first | rfl | (simp; done) | (simp [*]; done)), (by first | rfl | (simp; done) | (simp [*]; done)), H', ⟨by have := HK1.out; have := HK2.out; have := HK3.out; omega⟩, ⟨by (with_reducible repeat (first | refine blk_drewN ?_ _ | refine blk_drew ?_ | refine blk_alloc ?_ _)); exact BK101.out⟩, ⟨by repeat (first | (with_reducible first | exact HB.out | apply below_alloc | apply pw_below_drewN | apply below_drew1 | refine below_set ?_ GE101.out) | exact HB.out)⟩⟩
           ·rw [if_neg c17] at H
            exact absurd H (by simp)
          ·rw [if_neg c16] at H
           exact absurd H (by simp)
         ·rw [if_neg c15] at H
          have c15b0 : decide (x40_3 < (l0_1.length : Int)) = false := decide_eq_false c15
          clear c15
          by_cases c18 : x3_3 ≤ 600
          ·rw [if_pos c18] at H
           have c18b0 : decide (x3_3 ≤ 600) = true := decide_eq_true c18
           clear c18
           by_cases c19 : (l0_0.length : Int) ≤ 60
           ·rw [if_pos c19] at H
            have c19b0 : decide ((l0_0.length : Int) ≤ 60) = true := decide_eq_true c19
            have c19b1 : decide (l0_0.length ≤ 60) = true := decide_eq_true (by omega)
            clear c19
            by_cases c20 : (l0_1.length : Int) ≤ 60
            ·rw [if_pos c20] at H
             have c20b0 : decide ((l0_1.length : Int) ≤ 60) = true := decide_eq_true c20
             have c20b1 : decide (l0_1.length ≤ 60) = true := decide_eq_true (by omega)
             clear c20
             obtain rfl := Option.some.inj H
             have hcz21_0 : wr.cell? ⟨gb101, 0, none⟩ = some (.slice A0_0 l0_0.length c0_0) := (blk_cell BK101.out 0).trans rfl
             have hcz21_1 : wr.cell? ⟨gb101, 1, none⟩ = some (.slice A0_1 l0_1.length c0_1) := (blk_cell BK101.out 1).trans rfl
             have hcz21_2 : wr.cell? ⟨gb101, 2, none⟩ = some (.int .i64 a0_2) := (blk_cell BK101.out 2).trans rfl
             have hcz21_3 : wr.cell? ⟨gb101, 3, none⟩ = some (.slice A0_3 l0_3.length c0_3) := (blk_cell BK101.out 3).trans rfl
             have hfz21_0 := blk_frozen BK101.out 0
             have hfz21_1 := blk_frozen BK101.out 1
             have hfz21_2 := blk_frozen BK101.out 2
             have hfz21_3 := blk_frozen BK101.out 3
             go_wp2
             go_ret
             exact ⟨by first | rfl | (simp [errW_none, errW_some] <;> rfl) | (simp [*, errW_none, errW_some] <;> rfl), by repeat (first | (with_reducible first | exact HB.out | apply below_alloc | apply pw_below_drewN | apply below_drew1 | refine below_set ?_ GE101.out) | exact HB.out)⟩
            ·rw [if_neg c20] at H
             have c20b0 : decide ((l0_1.length : Int) ≤ 60) = false := decide_eq_false c20
             have c20b1 : decide (l0_1.length ≤ 60) = false := decide_eq_false (by omega)
             clear c20
             obtain rfl := Option.some.inj H
             have hcz22_0 : wr.cell? ⟨gb101, 0, none⟩ = some (.slice A0_0 l0_0.length c0_0) := (blk_cell BK101.out 0).trans rfl
             have hcz22_1 : wr.cell? ⟨gb101, 1, none⟩ = some (.slice A0_1 l0_1.length c0_1) := (blk_cell BK101.out 1).trans rfl
             have hcz22_2 : wr.cell? ⟨gb101, 2, none⟩ = some (.int .i64 a0_2) := (blk_cell BK101.out 2).trans rfl
             have hcz22_3 : wr.cell? ⟨gb101, 3, none⟩ = some (.slice A0_3 l0_3.length c0_3) := (blk_cell BK101.out 3).trans rfl
             have hfz22_0 := blk_frozen BK101.out 0
             have hfz22_1 := blk_frozen BK101.out 1
             have hfz22_2 := blk_frozen BK101.out 2
             have hfz22_3 := blk_frozen BK101.out 3
             go_wp2
             go_ret
             exact ⟨by first | rfl | (simp [errW_none, errW_some] <;> rfl) | (simp [*, errW_none, errW_some] <;> rfl), by repeat (first | (with_reducible first | exact HB.out | apply below_alloc | apply pw_below_drewN | apply below_drew1 | refine below_set ?_ GE101.out) | exact HB.out)⟩
           ·rw [if_neg c19] at H
            have c19b0 : decide ((l0_0.length : Int) ≤ 60) = false := decide_eq_false c19
            have c19b1 : decide (l0_0.length ≤ 60) = false := decide_eq_false (by omega)
            clear c19
            obtain rfl := Option.some.inj H
            have hcz23_0 : wr.cell? ⟨gb101, 0, none⟩ = some (.slice A0_0 l0_0.length c0_0) := (blk_cell BK101.out 0).trans rfl
            have hcz23_1 : wr.cell? ⟨gb101, 1, none⟩ = some (.slice A0_1 l0_1.length c0_1) := (blk_cell BK101.out 1).trans rfl
            have hcz23_2 : wr.cell? ⟨gb101, 2, none⟩ = some (.int .i64 a0_2) := (blk_cell BK101.out 2).trans rfl
            have hcz23_3 : wr.cell? ⟨gb101, 3, none⟩ = some (.slice A0_3 l0_3.length c0_3) := (blk_cell BK101.out 3).trans rfl
            have hfz23_0 := blk_frozen BK101.out 0
            have hfz23_1 := blk_frozen BK101.out 1
            have hfz23_2 := blk_frozen BK101.out 2
            have hfz23_3 := blk_frozen BK101.out 3
            go_wp2
            go_ret
            exact ⟨by first | rfl | (simp [errW_none, errW_some] <;> rfl) | (simp [*, errW_none, errW_some] <;> rfl), by repeat (first | (with_reducible first | exact HB.out | apply below_alloc | apply pw_below_drewN | apply below_drew1 | refine below_set ?_ GE101.out) | exact HB.out)⟩
          ·rw [if_neg c18] at H
           have c18b0 : decide (x3_3 ≤ 600) = false := decide_eq_false c18
           clear c18
           obtain rfl := Option.some.inj H
           go_wp2
           go_ret
           exact ⟨by first | rfl | (simp [errW_none, errW_some] <;> rfl) | (simp [*, errW_none, errW_some] <;> rfl), by repeat (first | (with_reducible first | exact HB.out | apply below_alloc | apply pw_below_drewN | apply below_drew1 | refine below_set ?_ GE101.out) | exact HB.out)⟩
def wickerlaw02_Example.f  : Option (List ByteArray × List ByteArray × Int × (List (S35))) := some ((([(⟨#[83]⟩ : ByteArray)] : List ByteArray)), (([(⟨#[97]⟩ : ByteArray)] : List ByteArray)), 0, (([(⟨0, (([(-1), 0] : List Int))⟩ : S35), (⟨0, ([] : List Int)⟩ : S35)] : List (S35))))
set_option maxHeartbeats 8000000 in
set_option maxRecDepth 100000 in
theorem wickerlaw02_Example.calls  (r1 : List ByteArray) (r2 : List ByteArray) (r3 : Int) (r4 : List (S35)) (w : World) (h : wickerlaw02_Example.f  = some (r1, r2, r3, r4)) :
  Calls Tryd.prog 46 #[] w fun e w' => ∃ v0_ v1_ v3_ : Value, e = .returned (.agg #[v0_, v1_, .int .i64 r3, v3_]) ∧ Kd.R Kd.string 9 w' w.heap.size (fun k_ => (w.heap.size ≤ k_) ∧ some k_ ≠ (v1_ : Value).ownBlock) v0_ r1 ∧ Kd.R Kd.string 9 w' w.heap.size (fun k_ => (w.heap.size ≤ k_) ∧ some k_ ≠ (v0_ : Value).ownBlock) v1_ r2 ∧ Kd.N k35 35 w' w.heap.size (fun k_ => (w.heap.size ≤ k_) ∧ some k_ ≠ (v0_ : Value).ownBlock ∧ some k_ ≠ (v1_ : Value).ownBlock) v3_ r4 ∧ Below w.heap.size w w' := by
 have hu25 := Tryd.underlying25
 have hu35 := Tryd.underlying35
 have HB := Aside0.mk (Below.refl w.heap.size w)
 have H : (some ((([(⟨#[83]⟩ : ByteArray)] : List ByteArray)), (([(⟨#[97]⟩ : ByteArray)] : List ByteArray)), 0, (([(⟨0, (([(-1), 0] : List Int))⟩ : S35), (⟨0, ([] : List Int)⟩ : S35)] : List (S35))))) = some (r1, r2, r3, r4) := h
 clear h
 obtain ⟨y102, hy102⟩ : ∃ y_ : List ByteArray, y_ = (([(⟨#[83]⟩ : ByteArray)] : List ByteArray)) := ⟨_, rfl⟩
 replace H : (some (y102, (([(⟨#[97]⟩ : ByteArray)] : List ByteArray)), 0, (([(⟨0, (([(-1), 0] : List Int))⟩ : S35), (⟨0, ([] : List Int)⟩ : S35)] : List (S35))))) = some (r1, r2, r3, r4) := by first | (rw [hy102]; with_reducible exact H) | (have H2_ := (Option.bind_some _ _).symm.trans H; rw [hy102]; with_reducible exact H2_) | (have H2_ := (Option.bind_some _ _).symm.trans H; with_reducible exact H2_) | with_reducible exact H | (rw [hy102]; exact H) | exact H
 have Ny102 := Aside0.mk hy102
 clear hy102
 obtain ⟨y105, hy105⟩ : ∃ y_ : List ByteArray, y_ = (([(⟨#[97]⟩ : ByteArray)] : List ByteArray)) := ⟨_, rfl⟩
 replace H : (some (y102, y105, 0, (([(⟨0, (([(-1), 0] : List Int))⟩ : S35), (⟨0, ([] : List Int)⟩ : S35)] : List (S35))))) = some (r1, r2, r3, r4) := by first | (rw [hy105]; with_reducible exact H) | (have H2_ := (Option.bind_some _ _).symm.trans H; rw [hy105]; with_reducible exact H2_) | (have H2_ := (Option.bind_some _ _).symm.trans H; with_reducible exact H2_) | with_reducible exact H | (rw [hy105]; exact H) | exact H
 have Ny105 := Aside0.mk hy105
 clear hy105
 obtain ⟨y108, hy108⟩ : ∃ y_ : List Int, y_ = (([(-1), 0] : List Int)) := ⟨_, rfl⟩
 replace H : (some (y102, y105, 0, (([(⟨0, y108⟩ : S35), (⟨0, ([] : List Int)⟩ : S35)] : List (S35))))) = some (r1, r2, r3, r4) := by first | (rw [hy108]; with_reducible exact H) | (have H2_ := (Option.bind_some _ _).symm.trans H; rw [hy108]; with_reducible exact H2_) | (have H2_ := (Option.bind_some _ _).symm.trans H; with_reducible exact H2_) | with_reducible exact H | (rw [hy108]; exact H) | exact H
 have Ny108 := Aside0.mk hy108
 clear hy108
 obtain ⟨y111, hy111⟩ : ∃ y_ : List (S35), y_ = (([(⟨0, y108⟩ : S35), (⟨0, ([] : List Int)⟩ : S35)] : List (S35))) := ⟨_, rfl⟩
 replace H : (some (y102, y105, 0, y111)) = some (r1, r2, r3, r4) := by first | (rw [hy111]; with_reducible exact H) | (have H2_ := (Option.bind_some _ _).symm.trans H; rw [hy111]; with_reducible exact H2_) | (have H2_ := (Option.bind_some _ _).symm.trans H; with_reducible exact H2_) | with_reducible exact H | (rw [hy111]; exact H) | exact H
 have Ny111 := Aside0.mk hy111
 clear hy111
 simp only [Option.some.injEq, Prod.mk.injEq] at H
 obtain ⟨rfl, rfl, rfl, rfl⟩ := H
 go_enter Tryd.func46, Tryd.ntmps46
 go_wp2_with (first | ((with_reducible refine gate_dst (N := 0) rfl ?_); refine box_event ?hg (N := 0) ?hd (cs := #[.slice none 0 0, .slice none 0 0, .int .i64 0, .slice none 0 0]) (t := 25) ?hr ?_; (case hd => rfl); (case hg => rfl); (case hr => first | (go_simp; done) | (go_simp; rfl)); intro gb101 hg w1 hbox hb; have n0_ := Aside0.mk (below_step (by repeat (first | (with_reducible first | exact HB.out | apply below_alloc | apply pw_below_drewN | apply below_drew1) | exact HB.out)) hb); have n1_ := Aside0.mk (hbox); have n2_ := Aside0.mk ((by rw [hg]; exact (below_size (by repeat (first | (with_reducible first | exact HB.out | apply below_alloc | apply pw_below_drewN | apply below_drew1) | exact HB.out))) : w.heap.size ≤ gb101)); have n3_ := Aside0.mk ((by rw [hg]; exact (below_size (by repeat (first | (with_reducible first | exact HB.out | apply below_alloc | apply pw_below_drewN | apply below_drew1) | exact HB.out))) : w.heap.size ≤ gb101)); clear HB; have HB := n0_; have BK101 := n1_; have GW101 := n2_; have GE101 := n3_; clear n0_ n1_ n2_ n3_; clear hb hbox hg) | ((with_reducible refine gate_dst (N := 1) rfl ?_); refine Kd.R_lit Kd.string _ 9 ?hg (N := 1) ?hd (xs := ([(⟨#[83]⟩ : ByteArray)] : List ByteArray)) (inner := [.string (⟨#[83]⟩ : ByteArray)]) (ok := fun _ => True) (okp := fun _ => True) ?hr ?hp (fun _ hk => hk) trivial (Below.refl _ _) (Nat.le_refl _) (by simp) ?_; (case hd => rfl); (case hg => rfl); (case hr => first | (go_simp; done) | (go_simp; rfl)); (case hp => exact (Reps.one (show Kd.M Kd.string _ _ _ (⟨#[83]⟩ : ByteArray) [.string (⟨#[83]⟩ : ByteArray)] from rfl) (Reps.none _ _))); intro v103 w2 ho3 hb hg_ hnew_; clear hg_ hnew_; (first | rw [← Ny102.out] at ho3 | (simp only [Int.reduceToNat] at ho3; rw [← Ny102.out] at ho3)); have n0_ := Aside0.mk (Kd.R_lower (Kd.R_newM (M := fun k_ => (w.heap.size ≤ k_)) ho3 (below_size (by repeat (first | (with_reducible first | exact HB.out | apply below_alloc | apply pw_below_drewN | apply below_drew1 | refine below_set ?_ GE101.out) | exact HB.out))) (fun k_ h_ => h_)) (below_size (by repeat (first | (with_reducible first | exact HB.out | apply below_alloc | apply pw_below_drewN | apply below_drew1 | refine below_set ?_ GE101.out) | exact HB.out)))); have n1_ := Aside0.mk (blk_below (g := gb101) (o := .cells #[.slice none 0 0, .slice none 0 0, .int .i64 0, .slice none 0 0] 25 (0, 0)) (by (with_reducible repeat (first | refine blk_drewN ?_ _ | refine blk_drew ?_ | refine blk_alloc ?_ _)); exact BK101.out) hb); have n2_ := Aside0.mk (below_step (by repeat (first | (with_reducible first | exact HB.out | apply below_alloc | apply pw_below_drewN | apply below_drew1 | refine below_set ?_ GE101.out) | exact HB.out)) hb); clear BK101; clear HB; have HO104 := n0_; have BK101 := n1_; have HB := n2_; clear n0_ n1_ n2_; clear hb ho3) | ((with_reducible refine gate_dst (N := 2) rfl ?_); refine Kd.R_lit Kd.string _ 9 ?hg (N := 2) ?hd (xs := ([(⟨#[97]⟩ : ByteArray)] : List ByteArray)) (inner := [.string (⟨#[97]⟩ : ByteArray)]) (ok := fun _ => True) (okp := fun _ => True) ?hr ?hp (fun _ hk => hk) trivial (Below.refl _ _) (Nat.le_refl _) (by simp) ?_; (case hd => rfl); (case hg => rfl); (case hr => first | (go_simp; done) | (go_simp; rfl)); (case hp => exact (Reps.one (show Kd.M Kd.string _ _ _ (⟨#[97]⟩ : ByteArray) [.string (⟨#[97]⟩ : ByteArray)] from rfl) (Reps.none _ _))); intro v106 w4 ho5 hb hg_ hnew_; clear hg_ hnew_; (first | rw [← Ny105.out] at ho5 | (simp only [Int.reduceToNat] at ho5; rw [← Ny105.out] at ho5)); have n0_ := Aside0.mk (Kd.R_elder' (by (with_reducible repeat (first | apply Kd.R_alloc | apply Kd.R_drewN | apply Kd.R_drew)); exact HO104.out) (Kd.R_base ho5) hb); have n1_ := Aside0.mk (Kd.R_lower (Kd.R_new' (Kd.R_newM (M := fun k_ => (w.heap.size ≤ k_)) ho5 (below_size (by repeat (first | (with_reducible first | exact HB.out | apply below_alloc | apply pw_below_drewN | apply below_drew1 | refine below_set ?_ GE101.out) | exact HB.out))) (fun k_ h_ => h_)) (Kd.R_lt (by (with_reducible repeat (first | apply Kd.R_alloc | apply Kd.R_drewN | apply Kd.R_drew)); exact HO104.out))) (below_size (by repeat (first | (with_reducible first | exact HB.out | apply below_alloc | apply pw_below_drewN | apply below_drew1 | refine below_set ?_ GE101.out) | exact HB.out)))); have n2_ := Aside0.mk (blk_below (g := gb101) (o := .cells #[.slice none 0 0, .slice none 0 0, .int .i64 0, .slice none 0 0] 25 (0, 0)) (by (with_reducible repeat (first | refine blk_drewN ?_ _ | refine blk_drew ?_ | refine blk_alloc ?_ _)); exact BK101.out) hb); have n3_ := Aside0.mk (below_step (by repeat (first | (with_reducible first | exact HB.out | apply below_alloc | apply pw_below_drewN | apply below_drew1 | refine below_set ?_ GE101.out) | exact HB.out)) hb); clear HO104; clear BK101; clear HB; have HO104 := n0_; have HO107 := n1_; have BK101 := n2_; have HB := n3_; clear n0_ n1_ n2_ n3_; clear hb ho5) | ((with_reducible refine gate_dst (N := 3) rfl ?_); refine Kd.R_lit (Kd.int .i64) _ 55 ?hg (N := 3) ?hd (xs := ([(-1), 0] : List Int)) (inner := [.int .i64 (-1), .int .i64 0]) (ok := fun _ => True) (okp := fun _ => True) ?hr ?hp (fun _ hk => hk) trivial (Below.refl _ _) (Nat.le_refl _) (by simp) ?_; (case hd => rfl); (case hg => rfl); (case hr => first | (go_simp; done) | (go_simp; rfl)); (case hp => exact (Reps.one (show Kd.M (Kd.int .i64) _ _ _ (-1) [.int .i64 (-1)] from rfl) (Reps.one (show Kd.M (Kd.int .i64) _ _ _ 0 [.int .i64 0] from rfl) (Reps.none _ _)))); intro v109 w6 ho7 hb hg_ hnew_; clear hg_ hnew_; (first | rw [← Ny108.out] at ho7 | (simp only [Int.reduceToNat] at ho7; rw [← Ny108.out] at ho7)); have n0_ := Aside0.mk (Kd.R_below (by (with_reducible repeat (first | apply Kd.R_alloc | apply Kd.R_drewN | apply Kd.R_drew)); exact HO104.out) hb); have n1_ := Aside0.mk (Kd.R_below (by (with_reducible repeat (first | apply Kd.R_alloc | apply Kd.R_drewN | apply Kd.R_drew)); exact HO107.out) hb); have n2_ := Aside0.mk (Kd.R_lower (Kd.R_newM (M := fun k_ => (w.heap.size ≤ k_)) ho7 (below_size (by repeat (first | (with_reducible first | exact HB.out | apply below_alloc | apply pw_below_drewN | apply below_drew1 | refine below_set ?_ GE101.out) | exact HB.out))) (fun k_ h_ => h_)) (below_size (by repeat (first | (with_reducible first | exact HB.out | apply below_alloc | apply pw_below_drewN | apply below_drew1 | refine below_set ?_ GE101.out) | exact HB.out)))); have n3_ := Aside0.mk (blk_below (g := gb101) (o := .cells #[.slice none 0 0, .slice none 0 0, .int .i64 0, .slice none 0 0] 25 (0, 0)) (by (with_reducible repeat (first | refine blk_drewN ?_ _ | refine blk_drew ?_ | refine blk_alloc ?_ _)); exact BK101.out) hb); have n4_ := Aside0.mk (below_step (by repeat (first | (with_reducible first | exact HB.out | apply below_alloc | apply pw_below_drewN | apply below_drew1 | refine below_set ?_ GE101.out) | exact HB.out)) hb); clear HO104; clear HO107; clear BK101; clear HB; have HO104 := n0_; have HO107 := n1_; have HO110 := n2_; have BK101 := n3_; have HB := n4_; clear n0_ n1_ n2_ n3_ n4_; clear hb ho7; obtain ⟨Ao8, co8, eo8⟩ := Kd.R_slice HO110.out; subst eo8) | ((with_reducible refine gate_dst (N := 6) rfl ?_); refine Kd.N_lit k35 _ 35 ?hg (N' := 6) ?hd (xs := ([(⟨0, y108⟩ : S35), (⟨0, ([] : List Int)⟩ : S35)] : List (S35))) (inner := [.int .i64 0, .slice Ao8 y108.length co8, .int .i64 0, .slice none 0 0]) (ok := (fun k_ => (w.heap.size ≤ k_) ∧ some k_ ≠ (v103 : Value).ownBlock ∧ some k_ ≠ (v106 : Value).ownBlock ∧ k_ ≠ gb101)) (okp := (fun k_ => (w.heap.size ≤ k_) ∧ some k_ ≠ (v103 : Value).ownBlock ∧ some k_ ≠ (v106 : Value).ownBlock ∧ k_ ≠ gb101)) ?hr ?hp (fun _ hk => hk) ((show ∀ k_, w6.heap.size ≤ k_ → (fun k_ => (w.heap.size ≤ k_) ∧ some k_ ≠ (v103 : Value).ownBlock ∧ some k_ ≠ (v106 : Value).ownBlock ∧ k_ ≠ gb101) k_ from fun k_ hk => ⟨(Nat.le_trans (below_size (by repeat (first | (with_reducible first | exact HB.out | apply below_alloc | apply pw_below_drewN | apply below_drew1 | refine below_set ?_ GE101.out) | exact HB.out))) hk), Kd.fresh' (Kd.R_lt (by (with_reducible repeat (first | apply Kd.R_alloc | apply Kd.R_drewN | apply Kd.R_drew)); exact HO104.out)) k_ hk, Kd.fresh' (Kd.R_lt (by (with_reducible repeat (first | apply Kd.R_alloc | apply Kd.R_drewN | apply Kd.R_drew)); exact HO107.out)) k_ hk, Kd.freshB (g := gb101) (o := .cells #[.slice none 0 0, .slice none 0 0, .int .i64 0, .slice none 0 0] 25 (0, 0)) (by (with_reducible repeat (first | refine blk_drewN ?_ _ | refine blk_drew ?_ | refine blk_alloc ?_ _)); exact BK101.out) k_ hk⟩) _ (Nat.le_refl _)) (Below.refl _ _) (Nat.le_refl _) (by simp) ?_; (case hd => rfl); (case hg => rfl); (case hr => first | (go_simp; done) | (go_simp; rfl)); (case hp => exact (Reps.c2 (show Kd.FK k35 _ _ (⟨0, y108⟩ : S35) [.int .i64 0, .slice Ao8 y108.length co8] from (k35_mkF _ _ (⟨0, y108⟩ : S35) (Kd.R_reads' (Kd.R_mono (ok' := (fun k_ => (w.heap.size ≤ k_) ∧ some k_ ≠ (v103 : Value).ownBlock ∧ some k_ ≠ (v106 : Value).ownBlock ∧ k_ ≠ gb101)) (Kd.R_types (Kd.R_apart' (Kd.R_apart' (HO110.out) (Kd.R_typed HO104.out) (by decide)) (Kd.R_typed HO107.out) (by decide)) BK101.out (by decide)) (fun k_ hk => ⟨hk.1.1.1.1, ⟨hk.1.1.2, ⟨hk.1.2, hk.2⟩⟩⟩))).2.1 (Kd.R_F (Kd.R_mono (ok' := (fun k_ => (w.heap.size ≤ k_) ∧ some k_ ≠ (v103 : Value).ownBlock ∧ some k_ ≠ (v106 : Value).ownBlock ∧ k_ ≠ gb101)) (Kd.R_types (Kd.R_apart' (Kd.R_apart' (HO110.out) (Kd.R_typed HO104.out) (by decide)) (Kd.R_typed HO107.out) (by decide)) BK101.out (by decide)) (fun k_ hk => ⟨hk.1.1.1.1, ⟨hk.1.1.2, ⟨hk.1.2, hk.2⟩⟩⟩))))) (Reps.c2 (show Kd.FK k35 _ _ (⟨0, ([] : List Int)⟩ : S35) [.int .i64 0, .slice none 0 0] from (k35_mkF _ _ (⟨0, ([] : List Int)⟩ : S35) (Nat.le_refl _) (Kd.F_nil _ _ _))) (Reps.none _ _)))); intro v112 w9 ho10 hb hg_ hnew_; clear hg_ hnew_; (first | rw [← Ny111.out] at ho10 | (simp only [Int.reduceToNat] at ho10; rw [← Ny111.out] at ho10)); have n0_ := Aside0.mk (Kd.R_below (by (with_reducible repeat (first | apply Kd.R_alloc | apply Kd.R_drewN | apply Kd.R_drew)); exact HO104.out) hb); have n1_ := Aside0.mk (Kd.R_below (by (with_reducible repeat (first | apply Kd.R_alloc | apply Kd.R_drewN | apply Kd.R_drew)); exact HO107.out) hb); have n2_ := Aside0.mk (Kd.N_lower ho10 (below_size (by repeat (first | (with_reducible first | exact HB.out | apply below_alloc | apply pw_below_drewN | apply below_drew1 | refine below_set ?_ GE101.out) | exact HB.out)))); have n3_ := Aside0.mk (blk_below (g := gb101) (o := .cells #[.slice none 0 0, .slice none 0 0, .int .i64 0, .slice none 0 0] 25 (0, 0)) (by (with_reducible repeat (first | refine blk_drewN ?_ _ | refine blk_drew ?_ | refine blk_alloc ?_ _)); exact BK101.out) hb); have n4_ := Aside0.mk (below_step (by repeat (first | (with_reducible first | exact HB.out | apply below_alloc | apply pw_below_drewN | apply below_drew1 | refine below_set ?_ GE101.out) | exact HB.out)) hb); clear HO104; clear HO107; clear BK101; clear HB; clear HO110; have HO104 := n0_; have HO107 := n1_; have HO113 := n2_; have BK101 := n3_; have HB := n4_; clear n0_ n1_ n2_ n3_ n4_; clear hb ho10; obtain ⟨Ao11, co11, eo11⟩ := Kd.N_slice HO113.out; subst eo11; obtain ⟨Ao12, co12, eo12⟩ := Kd.R_slice HO107.out; subst eo12; obtain ⟨Ao13, co13, eo13⟩ := Kd.R_slice HO104.out; subst eo13; have hcz14_0 : w9.cell? ⟨gb101, 0, none⟩ = some (.slice none 0 0) := (blk_cell BK101.out 0).trans rfl; have hcz14_1 : w9.cell? ⟨gb101, 1, none⟩ = some (.slice none 0 0) := (blk_cell BK101.out 1).trans rfl; have hcz14_2 : w9.cell? ⟨gb101, 2, none⟩ = some (.int .i64 0) := (blk_cell BK101.out 2).trans rfl; have hcz14_3 : w9.cell? ⟨gb101, 3, none⟩ = some (.slice none 0 0) := (blk_cell BK101.out 3).trans rfl; have hfz14_0 := blk_frozen BK101.out 0; have hfz14_1 := blk_frozen BK101.out 1; have hfz14_2 := blk_frozen BK101.out 2; have hfz14_3 := blk_frozen BK101.out 3))
 refine bodyPost_ret (results_cell_row rfl _ _ gb101 25 #[.slice Ao13 y102.length co13, .slice Ao12 y105.length co12, .int .i64 0, .slice Ao11 y111.length co11] (0, 0) _ rfl (by (with_reducible repeat (first | refine blk_drewN ?_ _ | refine blk_drew ?_ | refine blk_alloc ?_ _)); refine blk_put (cs := #[.slice Ao13 y102.length co13, .slice Ao12 y105.length co12, .int .i64 0, .slice none 0 0]) ?_ 3 _ rfl; (with_reducible repeat (first | refine blk_drewN ?_ _ | refine blk_drew ?_ | refine blk_alloc ?_ _)); refine blk_put (cs := #[.slice Ao13 y102.length co13, .slice Ao12 y105.length co12, .int .i64 0, .slice none 0 0]) ?_ 2 _ rfl; (with_reducible repeat (first | refine blk_drewN ?_ _ | refine blk_drew ?_ | refine blk_alloc ?_ _)); refine blk_put (cs := #[.slice Ao13 y102.length co13, .slice none 0 0, .int .i64 0, .slice none 0 0]) ?_ 1 _ rfl; (with_reducible repeat (first | refine blk_drewN ?_ _ | refine blk_drew ?_ | refine blk_alloc ?_ _)); refine blk_put (cs := #[.slice none 0 0, .slice none 0 0, .int .i64 0, .slice none 0 0]) ?_ 0 _ rfl; (with_reducible repeat (first | refine blk_drewN ?_ _ | refine blk_drew ?_ | refine blk_alloc ?_ _)); exact BK101.out) Tryd.underlying25 rfl (by kernel_rfl)) rfl ?_
 exact ⟨_, _, _, by first | rfl | (simp [errW_none, errW_some] <;> rfl) | (simp [*, errW_none, errW_some] <;> rfl), by (with_reducible repeat (first | apply Kd.R_alloc | apply Kd.R_drewN | apply Kd.R_drew)); exact Kd.R_mono (Kd.R_far (p := ⟨gb101, 3, none⟩) (Kd.R_far (p := ⟨gb101, 2, none⟩) (Kd.R_far (p := ⟨gb101, 1, none⟩) (Kd.R_far (p := ⟨gb101, 0, none⟩) (Kd.R_types HO104.out BK101.out (by decide)) (fun _ hk => hk.2) (.slice Ao13 y102.length co13)) (fun _ hk => hk.2) (.slice Ao12 y105.length co12)) (fun _ hk => hk.2) (.int .i64 0)) (fun _ hk => hk.2) (.slice Ao11 y111.length co11)) (fun _ hk => ⟨hk.1.1.1, hk.1.2⟩), by (with_reducible repeat (first | apply Kd.R_alloc | apply Kd.R_drewN | apply Kd.R_drew)); exact Kd.R_mono (Kd.R_far (p := ⟨gb101, 3, none⟩) (Kd.R_far (p := ⟨gb101, 2, none⟩) (Kd.R_far (p := ⟨gb101, 1, none⟩) (Kd.R_far (p := ⟨gb101, 0, none⟩) (Kd.R_types HO107.out BK101.out (by decide)) (fun _ hk => hk.2) (.slice Ao13 y102.length co13)) (fun _ hk => hk.2) (.slice Ao12 y105.length co12)) (fun _ hk => hk.2) (.int .i64 0)) (fun _ hk => hk.2) (.slice Ao11 y111.length co11)) (fun _ hk => ⟨hk.1.1.1, hk.1.2⟩), by (with_reducible repeat (first | apply Kd.N_alloc | apply Kd.N_drewN | apply Kd.N_drew)); exact Kd.N_mono (Kd.N_far (p := ⟨gb101, 3, none⟩) (Kd.N_far (p := ⟨gb101, 2, none⟩) (Kd.N_far (p := ⟨gb101, 1, none⟩) (Kd.N_far (p := ⟨gb101, 0, none⟩) (Kd.N_mono HO113.out (fun k_ hk => (⟨hk, hk.2.2.2⟩ : _ ∧ k_ ≠ gb101))) (fun _ hk => hk.2) (.slice Ao13 y102.length co13)) (fun _ hk => hk.2) (.slice Ao12 y105.length co12)) (fun _ hk => hk.2) (.int .i64 0)) (fun _ hk => hk.2) (.slice Ao11 y111.length co11)) (fun _ hk => ⟨hk.1.1, ⟨hk.1.2.1, hk.1.2.2.1⟩⟩), by repeat (first | (with_reducible first | exact HB.out | apply below_alloc | apply pw_below_drewN | apply below_drew1 | refine below_set ?_ GE101.out) | exact HB.out)⟩
def wickerlaw02_Awake.f (k : Nat)  : Option (Bool) := (wickerlaw02_Example.f).bind fun bt101 => ((wickerlaw01_Awake.f k).bind fun t112 => (if t112 = true then ((gram_Grammar_Check.f bt101.1 bt101.2.1 bt101.2.2.1 bt101.2.2.2).bind fun t113 => (if t113 = 0 then ((gram_Grammar_Size.f k bt101.1 bt101.2.1 bt101.2.2.1 bt101.2.2.2).bind fun t114 => (if t114 = 4 then ((gram_Grammar_Text.f bt101.1 bt101.2.1 bt101.2.2.1 bt101.2.2.2 (-1)).bind fun t115 => (if t115.toList = ([34, 97, 34] : List UInt8) then ((gram_Grammar_Text.f bt101.1 bt101.2.1 bt101.2.2.1 bt101.2.2.2 0).bind fun t116 => (some (t116.toList == ([60, 83, 62] : List UInt8)))) else (some false))) else (some false))) else (some false))) else (some false)))
theorem wickerlaw02_Awake.mono : ∀ k, LeO (wickerlaw02_Awake.f k ) (wickerlaw02_Awake.f (k + 1) ) := by
 intro  k
 unfold wickerlaw02_Awake.f
 repeat' first
   | (with_reducible exact gram_Grammar_Size.mono _ _ _ _ _)
   | (with_reducible exact wickerlaw01_Awake.mono _)
   | (with_reducible exact LeO.refl _)
   | (with_reducible exact LeO.none _)
   | (with_reducible refine LeO.ite ?_ ?_)
   | (with_reducible refine LeO.bind ?_ (fun _ => ?_))
   | exact gram_Grammar_Size.mono _ _ _ _ _
   | exact wickerlaw01_Awake.mono _
   | exact LeO.none _
   | refine LeO.ite ?_ ?_
   | refine LeO.bind ?_ (fun _ => ?_)
set_option maxHeartbeats 8000000 in
set_option maxRecDepth 100000 in
theorem wickerlaw02_Awake.calls (k : Nat)  (r : Bool) (w : World) (hG : Laid w) (h : wickerlaw02_Awake.f k  = some r) :
  Calls Tryd.prog 19 #[] w fun e w' => e = .returned (.bool r) ∧ Below w.heap.size w w' := by
 have hu25 := Tryd.underlying25
 have HG := Aside0.mk hG
 clear hG
 have HB := Aside0.mk (Below.refl w.heap.size w)
 have H : ((wickerlaw02_Example.f).bind fun bt101 => ((wickerlaw01_Awake.f k).bind fun t112 => (if t112 = true then ((gram_Grammar_Check.f bt101.1 bt101.2.1 bt101.2.2.1 bt101.2.2.2).bind fun t113 => (if t113 = 0 then ((gram_Grammar_Size.f k bt101.1 bt101.2.1 bt101.2.2.1 bt101.2.2.2).bind fun t114 => (if t114 = 4 then ((gram_Grammar_Text.f bt101.1 bt101.2.1 bt101.2.2.1 bt101.2.2.2 (-1)).bind fun t115 => (if t115.toList = ([34, 97, 34] : List UInt8) then ((gram_Grammar_Text.f bt101.1 bt101.2.1 bt101.2.2.1 bt101.2.2.2 0).bind fun t116 => (some (t116.toList == ([60, 83, 62] : List UInt8)))) else (some false))) else (some false))) else (some false))) else (some false)))) = some r := h
 clear h
 replace H := Option.bind_eq_some_iff.mp H
 obtain ⟨⟨t101, t104, t107, t108⟩, A10, H⟩ := H
 replace H : ((wickerlaw01_Awake.f k).bind fun t112 => (if t112 = true then ((gram_Grammar_Check.f t101 t104 t107 t108).bind fun t113 => (if t113 = 0 then ((gram_Grammar_Size.f k t101 t104 t107 t108).bind fun t114 => (if t114 = 4 then ((gram_Grammar_Text.f t101 t104 t107 t108 (-1)).bind fun t115 => (if t115.toList = ([34, 97, 34] : List UInt8) then ((gram_Grammar_Text.f t101 t104 t107 t108 0).bind fun t116 => (some (t116.toList == ([60, 83, 62] : List UInt8)))) else (some false))) else (some false))) else (some false))) else (some false))) = some r := H
 have A1 := Aside0.mk A10
 clear A10
 replace H := Option.bind_eq_some_iff.mp H
 obtain ⟨t112, A20, H⟩ := H
 replace H : (if t112 = true then ((gram_Grammar_Check.f t101 t104 t107 t108).bind fun t113 => (if t113 = 0 then ((gram_Grammar_Size.f k t101 t104 t107 t108).bind fun t114 => (if t114 = 4 then ((gram_Grammar_Text.f t101 t104 t107 t108 (-1)).bind fun t115 => (if t115.toList = ([34, 97, 34] : List UInt8) then ((gram_Grammar_Text.f t101 t104 t107 t108 0).bind fun t116 => (some (t116.toList == ([60, 83, 62] : List UInt8)))) else (some false))) else (some false))) else (some false))) else (some false)) = some r := H
 have A2 := Aside0.mk A20
 clear A20
 by_cases c3 : t112 = true
 ·subst c3
  have H1 : ((gram_Grammar_Check.f t101 t104 t107 t108).bind fun t113 => (if t113 = 0 then ((gram_Grammar_Size.f k t101 t104 t107 t108).bind fun t114 => (if t114 = 4 then ((gram_Grammar_Text.f t101 t104 t107 t108 (-1)).bind fun t115 => (if t115.toList = ([34, 97, 34] : List UInt8) then ((gram_Grammar_Text.f t101 t104 t107 t108 0).bind fun t116 => (some (t116.toList == ([60, 83, 62] : List UInt8)))) else (some false))) else (some false))) else (some false))) = some r := by rw [if_pos rfl] at H; exact H
  clear H
  have H := H1
  clear H1
  replace H := Option.bind_eq_some_iff.mp H
  obtain ⟨t113, A40, H⟩ := H
  replace H : (if t113 = 0 then ((gram_Grammar_Size.f k t101 t104 t107 t108).bind fun t114 => (if t114 = 4 then ((gram_Grammar_Text.f t101 t104 t107 t108 (-1)).bind fun t115 => (if t115.toList = ([34, 97, 34] : List UInt8) then ((gram_Grammar_Text.f t101 t104 t107 t108 0).bind fun t116 => (some (t116.toList == ([60, 83, 62] : List UInt8)))) else (some false))) else (some false))) else (some false)) = some r := H
  have A4 := Aside0.mk A40
  clear A40
  by_cases c5 : t113 = 0
  ·rw [if_pos c5] at H
   have c5b0 : (t113 == 0) = true := beq_iff_eq.mpr c5
   have c5b1 : (t113 != 0) = false := bne_eq_false_iff_eq.mpr c5
   clear c5
   replace H := Option.bind_eq_some_iff.mp H
   obtain ⟨t114, A60, H⟩ := H
   replace H : (if t114 = 4 then ((gram_Grammar_Text.f t101 t104 t107 t108 (-1)).bind fun t115 => (if t115.toList = ([34, 97, 34] : List UInt8) then ((gram_Grammar_Text.f t101 t104 t107 t108 0).bind fun t116 => (some (t116.toList == ([60, 83, 62] : List UInt8)))) else (some false))) else (some false)) = some r := H
   have A6 := Aside0.mk A60
   clear A60
   by_cases c7 : t114 = 4
   ·rw [if_pos c7] at H
    have c7b0 : (t114 == 4) = true := beq_iff_eq.mpr c7
    have c7b1 : (t114 != 4) = false := bne_eq_false_iff_eq.mpr c7
    clear c7
    replace H := Option.bind_eq_some_iff.mp H
    obtain ⟨t115, A80, H⟩ := H
    replace H : (if t115.toList = ([34, 97, 34] : List UInt8) then ((gram_Grammar_Text.f t101 t104 t107 t108 0).bind fun t116 => (some (t116.toList == ([60, 83, 62] : List UInt8)))) else (some false)) = some r := H
    have A8 := Aside0.mk A80
    clear A80
    by_cases c9 : t115.toList = ([34, 97, 34] : List UInt8)
    ·rw [if_pos c9] at H
     have c9b0 : (t115.toList == ([34, 97, 34] : List UInt8)) = true := beq_iff_eq.mpr c9
     have c9b1 : (t115.toList != ([34, 97, 34] : List UInt8)) = false := bne_eq_false_iff_eq.mpr c9
     clear c9
     replace H := Option.bind_eq_some_iff.mp H
     obtain ⟨t116, A100, H⟩ := H
     replace H : (some (t116.toList == ([60, 83, 62] : List UInt8))) = some r := H
     have A10 := Aside0.mk A100
     clear A100
     obtain rfl := Option.some.inj H
     go_enter Tryd.func19, Tryd.ntmps19
     go_wp2_with (first | ((with_reducible refine gate_callee (f := 46) rfl ?_); refine goesL_ (some 2) rfl rfl Tryd.func46 (by kernel_rfl) rfl #[] rfl (by (try simp only [List.map_toArray, List.map_cons, List.map_nil]); first | done | rfl | (simp only [List.length_drop, List.length_take]; rfl)) ?_; (with_reducible refine (wickerlaw02_Example.calls  t101 t104 t107 t108 _ A1.out).mono ?_); rintro e w11 ⟨v102, v105, v109, rfl, ho0, ho1, ho2, hb⟩; refine ⟨_, rfl, ?_⟩; have n0_ := Aside0.mk (Kd.R_lower (Kd.R_mono (ok' := fun k_ => some k_ ≠ (v105 : Value).ownBlock) ho0 (fun _ hk_ => hk_.2)) (below_size (by repeat (first | (with_reducible first | exact HB.out | apply below_alloc | apply pw_below_drewN | apply below_drew1) | exact HB.out)))); have n1_ := Aside0.mk (Kd.R_lower (Kd.R_mono (ok' := fun k_ => some k_ ≠ (v102 : Value).ownBlock) ho1 (fun _ hk_ => hk_.2)) (below_size (by repeat (first | (with_reducible first | exact HB.out | apply below_alloc | apply pw_below_drewN | apply below_drew1) | exact HB.out)))); have n2_ := Aside0.mk (Kd.N_lower (Kd.N_mono (ok' := fun k_ => some k_ ≠ (v102 : Value).ownBlock ∧ some k_ ≠ (v105 : Value).ownBlock) ho2 (fun k_ hk_ => ⟨hk_.2.1, hk_.2.2⟩)) (below_size (by repeat (first | (with_reducible first | exact HB.out | apply below_alloc | apply pw_below_drewN | apply below_drew1) | exact HB.out)))); have n3_ := Aside0.mk (below_step (by repeat (first | (with_reducible first | exact HB.out | apply below_alloc | apply pw_below_drewN | apply below_drew1) | exact HB.out)) hb); clear HB; have HO103 := n0_; have HO106 := n1_; have HO110 := n2_; have HB := n3_; clear n0_ n1_ n2_ n3_; (try clear hb); (try clear hb2); (try clear hk); (try clear hi); (try clear ho0); (try clear ho1); (try clear ho2)) | ((with_reducible refine gate_dst (N := 1) rfl ?_); refine box_event ?hg (N := 1) ?hd (cs := #[.slice none 0 0, .slice none 0 0, .int .i64 0, .slice none 0 0]) (t := 25) ?hr ?_; (case hd => rfl); (case hg => rfl); (case hr => first | (go_simp; done) | (go_simp; rfl)); intro gb111 hg w12 hbox hb; have n0_ := Aside0.mk (Kd.R_below (by (with_reducible repeat (first | apply Kd.R_alloc | apply Kd.R_drewN | apply Kd.R_drew)); exact HO103.out) hb); have n1_ := Aside0.mk (Kd.R_below (by (with_reducible repeat (first | apply Kd.R_alloc | apply Kd.R_drewN | apply Kd.R_drew)); exact HO106.out) hb); have n2_ := Aside0.mk (Kd.N_below (Kd.N_elderB (by (with_reducible repeat (first | apply Kd.N_alloc | apply Kd.N_drewN | apply Kd.N_drew)); exact HO110.out) gb111 (Nat.le_of_eq hg.symm)) hb); have n3_ := Aside0.mk (below_step (by repeat (first | (with_reducible first | exact HB.out | apply below_alloc | apply pw_below_drewN | apply below_drew1) | exact HB.out)) hb); have n4_ := Aside0.mk (hbox); have n5_ := Aside0.mk ((by rw [hg]; exact (below_size (by repeat (first | (with_reducible first | exact HB.out | apply below_alloc | apply pw_below_drewN | apply below_drew1) | exact HB.out))) : w.heap.size ≤ gb111)); have n6_ := Aside0.mk ((by rw [hg]; exact (below_size (by repeat (first | (with_reducible first | exact HB.out | apply below_alloc | apply pw_below_drewN | apply below_drew1) | exact HB.out))) : w.heap.size ≤ gb111)); clear HO103; clear HO106; clear HO110; clear HB; have HO103 := n0_; have HO106 := n1_; have HO110 := n2_; have HB := n3_; have BK111 := n4_; have GW111 := n5_; have GE111 := n6_; clear n0_ n1_ n2_ n3_ n4_ n5_ n6_; clear hb hbox hg; obtain ⟨Ao13, co13, eo13⟩ := Kd.R_slice HO103.out; subst eo13; have hcz14_0 : w12.cell? ⟨gb111, 0, none⟩ = some (.slice none 0 0) := (blk_cell BK111.out 0).trans rfl; have hcz14_1 : w12.cell? ⟨gb111, 1, none⟩ = some (.slice none 0 0) := (blk_cell BK111.out 1).trans rfl; have hcz14_2 : w12.cell? ⟨gb111, 2, none⟩ = some (.int .i64 0) := (blk_cell BK111.out 2).trans rfl; have hcz14_3 : w12.cell? ⟨gb111, 3, none⟩ = some (.slice none 0 0) := (blk_cell BK111.out 3).trans rfl; have hfz14_0 := blk_frozen BK111.out 0; have hfz14_1 := blk_frozen BK111.out 1; have hfz14_2 := blk_frozen BK111.out 2; have hfz14_3 := blk_frozen BK111.out 3; obtain ⟨Ao15, co15, eo15⟩ := Kd.R_slice HO106.out; subst eo15; obtain ⟨Ao16, co16, eo16⟩ := Kd.N_slice HO110.out; subst eo16) | ((with_reducible refine gate_callee (f := 47) rfl ?_); refine goesL_ (some 3) rfl rfl Tryd.func47 (by kernel_rfl) rfl #[] rfl (by (try simp only [List.map_toArray, List.map_cons, List.map_nil]); first | done | rfl | (simp only [List.length_drop, List.length_take]; rfl)) ?_; (with_reducible refine (wickerlaw01_Awake.calls k  true _ ?side1 A2.out).mono ?_); (case side1 => exact Laid.below HG.out (by repeat (first | (with_reducible first | exact HB.out | apply below_alloc | apply pw_below_drewN | apply below_drew1 | refine below_set ?_ GE111.out) | exact HB.out))); rintro e w17 ⟨rfl, hb⟩; refine ⟨_, rfl, ?_⟩; have n0_ := Aside0.mk (Kd.R_below (by (with_reducible repeat (first | apply Kd.R_alloc | apply Kd.R_drewN | apply Kd.R_drew)); exact (Kd.R_mono (Kd.R_far (p := ⟨gb111, 3, none⟩) (Kd.R_far (p := ⟨gb111, 2, none⟩) (Kd.R_far (p := ⟨gb111, 1, none⟩) (Kd.R_far (p := ⟨gb111, 0, none⟩) (Kd.R_types HO103.out BK111.out (by decide)) (fun _ hk => hk.2) (.slice Ao13 t101.length co13)) (fun _ hk => hk.2) (.slice Ao15 t104.length co15)) (fun _ hk => hk.2) (.int .i64 t107)) (fun _ hk => hk.2) (.slice Ao16 t108.length co16)) (fun _ h_ => h_.1))) hb); have n1_ := Aside0.mk (Kd.R_below (by (with_reducible repeat (first | apply Kd.R_alloc | apply Kd.R_drewN | apply Kd.R_drew)); exact (Kd.R_mono (Kd.R_far (p := ⟨gb111, 3, none⟩) (Kd.R_far (p := ⟨gb111, 2, none⟩) (Kd.R_far (p := ⟨gb111, 1, none⟩) (Kd.R_far (p := ⟨gb111, 0, none⟩) (Kd.R_types HO106.out BK111.out (by decide)) (fun _ hk => hk.2) (.slice Ao13 t101.length co13)) (fun _ hk => hk.2) (.slice Ao15 t104.length co15)) (fun _ hk => hk.2) (.int .i64 t107)) (fun _ hk => hk.2) (.slice Ao16 t108.length co16)) (fun _ h_ => h_.1))) hb); have n2_ := Aside0.mk (Kd.N_below (by (with_reducible repeat (first | apply Kd.N_alloc | apply Kd.N_drewN | apply Kd.N_drew)); exact (Kd.N_mono (Kd.N_far (p := ⟨gb111, 3, none⟩) (Kd.N_far (p := ⟨gb111, 2, none⟩) (Kd.N_far (p := ⟨gb111, 1, none⟩) (Kd.N_far (p := ⟨gb111, 0, none⟩) (Kd.N_mono HO110.out (fun k_ hk => (⟨hk, hk.2⟩ : _ ∧ k_ ≠ gb111))) (fun _ hk => hk.2) (.slice Ao13 t101.length co13)) (fun _ hk => hk.2) (.slice Ao15 t104.length co15)) (fun _ hk => hk.2) (.int .i64 t107)) (fun _ hk => hk.2) (.slice Ao16 t108.length co16)) (fun _ h_ => h_.1))) hb); have n3_ := Aside0.mk (blk_below (g := gb111) (o := .cells #[.slice Ao13 t101.length co13, .slice Ao15 t104.length co15, .int .i64 t107, .slice Ao16 t108.length co16] 25 (0, 0)) (by (with_reducible repeat (first | refine blk_drewN ?_ _ | refine blk_drew ?_ | refine blk_alloc ?_ _)); refine blk_put (cs := #[.slice Ao13 t101.length co13, .slice Ao15 t104.length co15, .int .i64 t107, .slice none 0 0]) ?_ 3 _ rfl; (with_reducible repeat (first | refine blk_drewN ?_ _ | refine blk_drew ?_ | refine blk_alloc ?_ _)); refine blk_put (cs := #[.slice Ao13 t101.length co13, .slice Ao15 t104.length co15, .int .i64 0, .slice none 0 0]) ?_ 2 _ rfl; (with_reducible repeat (first | refine blk_drewN ?_ _ | refine blk_drew ?_ | refine blk_alloc ?_ _)); refine blk_put (cs := #[.slice Ao13 t101.length co13, .slice none 0 0, .int .i64 0, .slice none 0 0]) ?_ 1 _ rfl; (with_reducible repeat (first | refine blk_drewN ?_ _ | refine blk_drew ?_ | refine blk_alloc ?_ _)); refine blk_put (cs := #[.slice none 0 0, .slice none 0 0, .int .i64 0, .slice none 0 0]) ?_ 0 _ rfl; (with_reducible repeat (first | refine blk_drewN ?_ _ | refine blk_drew ?_ | refine blk_alloc ?_ _)); exact BK111.out) hb); have n4_ := Aside0.mk (below_step (by repeat (first | (with_reducible first | exact HB.out | apply below_alloc | apply pw_below_drewN | apply below_drew1 | refine below_set ?_ GE111.out) | exact HB.out)) hb); clear HO103; clear HO106; clear HO110; clear BK111; clear HB; have HO103 := n0_; have HO106 := n1_; have HO110 := n2_; have BK111 := n3_; have HB := n4_; clear n0_ n1_ n2_ n3_ n4_; (try clear hb); (try clear hb2); (try clear hk); (try clear hi); have hcz18_0 : w17.cell? ⟨gb111, 0, none⟩ = some (.slice Ao13 t101.length co13) := (blk_cell BK111.out 0).trans rfl; have hcz18_1 : w17.cell? ⟨gb111, 1, none⟩ = some (.slice Ao15 t104.length co15) := (blk_cell BK111.out 1).trans rfl; have hcz18_2 : w17.cell? ⟨gb111, 2, none⟩ = some (.int .i64 t107) := (blk_cell BK111.out 2).trans rfl; have hcz18_3 : w17.cell? ⟨gb111, 3, none⟩ = some (.slice Ao16 t108.length co16) := (blk_cell BK111.out 3).trans rfl; have hfz18_0 := blk_frozen BK111.out 0; have hfz18_1 := blk_frozen BK111.out 1; have hfz18_2 := blk_frozen BK111.out 2; have hfz18_3 := blk_frozen BK111.out 3) | (go_at_call 48; (with_reducible refine (gram_Grammar_Check.calls _ _ t101 _ _ t104 t107 _ _ t108 t113 _ ?side1 ?side2 ?side3 ?side4 ?side5 ?side6 ?side7 A4.out).mono ?_); (case side1 => exact Laid.below HG.out (by repeat (first | (with_reducible first | exact HB.out | apply below_alloc | apply pw_below_drewN | apply below_drew1 | refine below_set ?_ GE111.out) | exact HB.out))); (case side2 => repeat (first | exact (Kd.R_reads' HO103.out).2.2 | (with_reducible refine Kd.C_alloc ?_ _) | (with_reducible refine Kd.C_drewN ?_ _) | (with_reducible refine Kd.C_drew ?_))); (case side3 => exact (Kd.R_reads' HO103.out).2.1); (case side4 => repeat (first | exact (Kd.R_reads' HO106.out).2.2 | (with_reducible refine Kd.C_alloc ?_ _) | (with_reducible refine Kd.C_drewN ?_ _) | (with_reducible refine Kd.C_drew ?_))); (case side5 => exact (Kd.R_reads' HO106.out).2.1); (case side6 => repeat (first | exact (Kd.N_reads' HO110.out).2.2 | (with_reducible refine Kd.C_alloc ?_ _) | (with_reducible refine Kd.C_drewN ?_ _) | (with_reducible refine Kd.C_drew ?_))); (case side7 => exact (Kd.N_reads' HO110.out).2.1); rintro e w19 ⟨rfl, hb⟩; have n0_ := Aside0.mk (Kd.R_below (by (with_reducible repeat (first | apply Kd.R_alloc | apply Kd.R_drewN | apply Kd.R_drew)); exact HO103.out) hb); have n1_ := Aside0.mk (Kd.R_below (by (with_reducible repeat (first | apply Kd.R_alloc | apply Kd.R_drewN | apply Kd.R_drew)); exact HO106.out) hb); have n2_ := Aside0.mk (Kd.N_below (by (with_reducible repeat (first | apply Kd.N_alloc | apply Kd.N_drewN | apply Kd.N_drew)); exact HO110.out) hb); have n3_ := Aside0.mk (blk_below (g := gb111) (o := .cells #[.slice Ao13 t101.length co13, .slice Ao15 t104.length co15, .int .i64 t107, .slice Ao16 t108.length co16] 25 (0, 0)) (by (with_reducible repeat (first | refine blk_drewN ?_ _ | refine blk_drew ?_ | refine blk_alloc ?_ _)); exact BK111.out) hb); have n4_ := Aside0.mk (below_step (by repeat (first | (with_reducible first | exact HB.out | apply below_alloc | apply pw_below_drewN | apply below_drew1 | refine below_set ?_ GE111.out) | exact HB.out)) hb); clear HO103; clear HO106; clear HO110; clear BK111; clear HB; have HO103 := n0_; have HO106 := n1_; have HO110 := n2_; have BK111 := n3_; have HB := n4_; clear n0_ n1_ n2_ n3_ n4_; (try clear hb); (try clear hb2); (try clear hk); (try clear hi); have hcz20_0 : w19.cell? ⟨gb111, 0, none⟩ = some (.slice Ao13 t101.length co13) := (blk_cell BK111.out 0).trans rfl; have hcz20_1 : w19.cell? ⟨gb111, 1, none⟩ = some (.slice Ao15 t104.length co15) := (blk_cell BK111.out 1).trans rfl; have hcz20_2 : w19.cell? ⟨gb111, 2, none⟩ = some (.int .i64 t107) := (blk_cell BK111.out 2).trans rfl; have hcz20_3 : w19.cell? ⟨gb111, 3, none⟩ = some (.slice Ao16 t108.length co16) := (blk_cell BK111.out 3).trans rfl; have hfz20_0 := blk_frozen BK111.out 0; have hfz20_1 := blk_frozen BK111.out 1; have hfz20_2 := blk_frozen BK111.out 2; have hfz20_3 := blk_frozen BK111.out 3) | (go_at_call 49; (with_reducible refine (gram_Grammar_Size.calls k _ _ t101 _ _ t104 t107 _ _ t108 t114 _ ?side1 ?side2 ?side3 ?side4 ?side5 ?side6 A6.out).mono ?_); (case side1 => repeat (first | exact (Kd.R_reads' HO103.out).2.2 | (with_reducible refine Kd.C_alloc ?_ _) | (with_reducible refine Kd.C_drewN ?_ _) | (with_reducible refine Kd.C_drew ?_))); (case side2 => exact (Kd.R_reads' HO103.out).2.1); (case side3 => repeat (first | exact (Kd.R_reads' HO106.out).2.2 | (with_reducible refine Kd.C_alloc ?_ _) | (with_reducible refine Kd.C_drewN ?_ _) | (with_reducible refine Kd.C_drew ?_))); (case side4 => exact (Kd.R_reads' HO106.out).2.1); (case side5 => repeat (first | exact (Kd.N_reads' HO110.out).2.2 | (with_reducible refine Kd.C_alloc ?_ _) | (with_reducible refine Kd.C_drewN ?_ _) | (with_reducible refine Kd.C_drew ?_))); (case side6 => exact (Kd.N_reads' HO110.out).2.1); rintro e w21 ⟨rfl, hb⟩; have n0_ := Aside0.mk (Kd.R_below (by (with_reducible repeat (first | apply Kd.R_alloc | apply Kd.R_drewN | apply Kd.R_drew)); exact HO103.out) hb); have n1_ := Aside0.mk (Kd.R_below (by (with_reducible repeat (first | apply Kd.R_alloc | apply Kd.R_drewN | apply Kd.R_drew)); exact HO106.out) hb); have n2_ := Aside0.mk (Kd.N_below (by (with_reducible repeat (first | apply Kd.N_alloc | apply Kd.N_drewN | apply Kd.N_drew)); exact HO110.out) hb); have n3_ := Aside0.mk (blk_below (g := gb111) (o := .cells #[.slice Ao13 t101.length co13, .slice Ao15 t104.length co15, .int .i64 t107, .slice Ao16 t108.length co16] 25 (0, 0)) (by (with_reducible repeat (first | refine blk_drewN ?_ _ | refine blk_drew ?_ | refine blk_alloc ?_ _)); exact BK111.out) hb); have n4_ := Aside0.mk (below_step (by repeat (first | (with_reducible first | exact HB.out | apply below_alloc | apply pw_below_drewN | apply below_drew1 | refine below_set ?_ GE111.out) | exact HB.out)) hb); clear HO103; clear HO106; clear HO110; clear BK111; clear HB; have HO103 := n0_; have HO106 := n1_; have HO110 := n2_; have BK111 := n3_; have HB := n4_; clear n0_ n1_ n2_ n3_ n4_; (try clear hb); (try clear hb2); (try clear hk); (try clear hi); have hcz22_0 : w21.cell? ⟨gb111, 0, none⟩ = some (.slice Ao13 t101.length co13) := (blk_cell BK111.out 0).trans rfl; have hcz22_1 : w21.cell? ⟨gb111, 1, none⟩ = some (.slice Ao15 t104.length co15) := (blk_cell BK111.out 1).trans rfl; have hcz22_2 : w21.cell? ⟨gb111, 2, none⟩ = some (.int .i64 t107) := (blk_cell BK111.out 2).trans rfl; have hcz22_3 : w21.cell? ⟨gb111, 3, none⟩ = some (.slice Ao16 t108.length co16) := (blk_cell BK111.out 3).trans rfl; have hfz22_0 := blk_frozen BK111.out 0; have hfz22_1 := blk_frozen BK111.out 1; have hfz22_2 := blk_frozen BK111.out 2; have hfz22_3 := blk_frozen BK111.out 3) | (go_at_call 50; (with_reducible refine (gram_Grammar_Text.calls _ _ t101 _ _ t104 t107 _ _ t108 (-1) t115 _ ?side1 ?side2 ?side3 ?side4 ?side5 ?side6 A8.out).mono ?_); (case side1 => repeat (first | exact (Kd.R_reads' HO103.out).2.2 | (with_reducible refine Kd.C_alloc ?_ _) | (with_reducible refine Kd.C_drewN ?_ _) | (with_reducible refine Kd.C_drew ?_))); (case side2 => exact (Kd.R_reads' HO103.out).2.1); (case side3 => repeat (first | exact (Kd.R_reads' HO106.out).2.2 | (with_reducible refine Kd.C_alloc ?_ _) | (with_reducible refine Kd.C_drewN ?_ _) | (with_reducible refine Kd.C_drew ?_))); (case side4 => exact (Kd.R_reads' HO106.out).2.1); (case side5 => repeat (first | exact (Kd.N_reads' HO110.out).2.2 | (with_reducible refine Kd.C_alloc ?_ _) | (with_reducible refine Kd.C_drewN ?_ _) | (with_reducible refine Kd.C_drew ?_))); (case side6 => exact (Kd.N_reads' HO110.out).2.1); rintro e w23 ⟨rfl, hb⟩; have n0_ := Aside0.mk (Kd.R_below (by (with_reducible repeat (first | apply Kd.R_alloc | apply Kd.R_drewN | apply Kd.R_drew)); exact HO103.out) hb); have n1_ := Aside0.mk (Kd.R_below (by (with_reducible repeat (first | apply Kd.R_alloc | apply Kd.R_drewN | apply Kd.R_drew)); exact HO106.out) hb); have n2_ := Aside0.mk (Kd.N_below (by (with_reducible repeat (first | apply Kd.N_alloc | apply Kd.N_drewN | apply Kd.N_drew)); exact HO110.out) hb); have n3_ := Aside0.mk (blk_below (g := gb111) (o := .cells #[.slice Ao13 t101.length co13, .slice Ao15 t104.length co15, .int .i64 t107, .slice Ao16 t108.length co16] 25 (0, 0)) (by (with_reducible repeat (first | refine blk_drewN ?_ _ | refine blk_drew ?_ | refine blk_alloc ?_ _)); exact BK111.out) hb); have n4_ := Aside0.mk (below_step (by repeat (first | (with_reducible first | exact HB.out | apply below_alloc | apply pw_below_drewN | apply below_drew1 | refine below_set ?_ GE111.out) | exact HB.out)) hb); clear HO103; clear HO106; clear HO110; clear BK111; clear HB; have HO103 := n0_; have HO106 := n1_; have HO110 := n2_; have BK111 := n3_; have HB := n4_; clear n0_ n1_ n2_ n3_ n4_; (try clear hb); (try clear hb2); (try clear hk); (try clear hi); have hcz24_0 : w23.cell? ⟨gb111, 0, none⟩ = some (.slice Ao13 t101.length co13) := (blk_cell BK111.out 0).trans rfl; have hcz24_1 : w23.cell? ⟨gb111, 1, none⟩ = some (.slice Ao15 t104.length co15) := (blk_cell BK111.out 1).trans rfl; have hcz24_2 : w23.cell? ⟨gb111, 2, none⟩ = some (.int .i64 t107) := (blk_cell BK111.out 2).trans rfl; have hcz24_3 : w23.cell? ⟨gb111, 3, none⟩ = some (.slice Ao16 t108.length co16) := (blk_cell BK111.out 3).trans rfl; have hfz24_0 := blk_frozen BK111.out 0; have hfz24_1 := blk_frozen BK111.out 1; have hfz24_2 := blk_frozen BK111.out 2; have hfz24_3 := blk_frozen BK111.out 3) | (go_at_call 50; (with_reducible refine (gram_Grammar_Text.calls _ _ t101 _ _ t104 t107 _ _ t108 0 t116 _ ?side1 ?side2 ?side3 ?side4 ?side5 ?side6 A10.out).mono ?_); (case side1 => repeat (first | exact (Kd.R_reads' HO103.out).2.2 | (with_reducible refine Kd.C_alloc ?_ _) | (with_reducible refine Kd.C_drewN ?_ _) | (with_reducible refine Kd.C_drew ?_))); (case side2 => exact (Kd.R_reads' HO103.out).2.1); (case side3 => repeat (first | exact (Kd.R_reads' HO106.out).2.2 | (with_reducible refine Kd.C_alloc ?_ _) | (with_reducible refine Kd.C_drewN ?_ _) | (with_reducible refine Kd.C_drew ?_))); (case side4 => exact (Kd.R_reads' HO106.out).2.1); (case side5 => repeat (first | exact (Kd.N_reads' HO110.out).2.2 | (with_reducible refine Kd.C_alloc ?_ _) | (with_reducible refine Kd.C_drewN ?_ _) | (with_reducible refine Kd.C_drew ?_))); (case side6 => exact (Kd.N_reads' HO110.out).2.1); rintro e w25 ⟨rfl, hb⟩; have n0_ := Aside0.mk (Kd.R_below (by (with_reducible repeat (first | apply Kd.R_alloc | apply Kd.R_drewN | apply Kd.R_drew)); exact HO103.out) hb); have n1_ := Aside0.mk (Kd.R_below (by (with_reducible repeat (first | apply Kd.R_alloc | apply Kd.R_drewN | apply Kd.R_drew)); exact HO106.out) hb); have n2_ := Aside0.mk (Kd.N_below (by (with_reducible repeat (first | apply Kd.N_alloc | apply Kd.N_drewN | apply Kd.N_drew)); exact HO110.out) hb); have n3_ := Aside0.mk (blk_below (g := gb111) (o := .cells #[.slice Ao13 t101.length co13, .slice Ao15 t104.length co15, .int .i64 t107, .slice Ao16 t108.length co16] 25 (0, 0)) (by (with_reducible repeat (first | refine blk_drewN ?_ _ | refine blk_drew ?_ | refine blk_alloc ?_ _)); exact BK111.out) hb); have n4_ := Aside0.mk (below_step (by repeat (first | (with_reducible first | exact HB.out | apply below_alloc | apply pw_below_drewN | apply below_drew1 | refine below_set ?_ GE111.out) | exact HB.out)) hb); clear HO103; clear HO106; clear HO110; clear BK111; clear HB; have HO103 := n0_; have HO106 := n1_; have HO110 := n2_; have BK111 := n3_; have HB := n4_; clear n0_ n1_ n2_ n3_ n4_; (try clear hb); (try clear hb2); (try clear hk); (try clear hi)))
     go_ret
     exact ⟨by first | rfl | (simp [errW_none, errW_some] <;> rfl) | (simp [*, errW_none, errW_some] <;> rfl), by repeat (first | (with_reducible first | exact HB.out | apply below_alloc | apply pw_below_drewN | apply below_drew1 | refine below_set ?_ GE111.out) | exact HB.out)⟩
    ·rw [if_neg c9] at H
     have c9b0 : (t115.toList == ([34, 97, 34] : List UInt8)) = false := beq_eq_false_iff_ne.mpr c9
     have c9b1 : (t115.toList != ([34, 97, 34] : List UInt8)) = true := bne_iff_ne.mpr c9
     obtain rfl := Option.some.inj H
     go_enter Tryd.func19, Tryd.ntmps19
     go_wp2_with (first | ((with_reducible refine gate_callee (f := 46) rfl ?_); refine goesL_ (some 2) rfl rfl Tryd.func46 (by kernel_rfl) rfl #[] rfl (by (try simp only [List.map_toArray, List.map_cons, List.map_nil]); first | done | rfl | (simp only [List.length_drop, List.length_take]; rfl)) ?_; (with_reducible refine (wickerlaw02_Example.calls  t101 t104 t107 t108 _ A1.out).mono ?_); rintro e w26 ⟨v102, v105, v109, rfl, ho0, ho1, ho2, hb⟩; refine ⟨_, rfl, ?_⟩; have n0_ := Aside0.mk (Kd.R_lower (Kd.R_mono (ok' := fun k_ => some k_ ≠ (v105 : Value).ownBlock) ho0 (fun _ hk_ => hk_.2)) (below_size (by repeat (first | (with_reducible first | exact HB.out | apply below_alloc | apply pw_below_drewN | apply below_drew1) | exact HB.out)))); have n1_ := Aside0.mk (Kd.R_lower (Kd.R_mono (ok' := fun k_ => some k_ ≠ (v102 : Value).ownBlock) ho1 (fun _ hk_ => hk_.2)) (below_size (by repeat (first | (with_reducible first | exact HB.out | apply below_alloc | apply pw_below_drewN | apply below_drew1) | exact HB.out)))); have n2_ := Aside0.mk (Kd.N_lower (Kd.N_mono (ok' := fun k_ => some k_ ≠ (v102 : Value).ownBlock ∧ some k_ ≠ (v105 : Value).ownBlock) ho2 (fun k_ hk_ => ⟨hk_.2.1, hk_.2.2⟩)) (below_size (by repeat (first | (with_reducible first | exact HB.out | apply below_alloc | apply pw_below_drewN | apply below_drew1) | exact HB.out)))); have n3_ := Aside0.mk (below_step (by repeat (first | (with_reducible first | exact HB.out | apply below_alloc | apply pw_below_drewN | apply below_drew1) | exact HB.out)) hb); clear HB; have HO103 := n0_; have HO106 := n1_; have HO110 := n2_; have HB := n3_; clear n0_ n1_ n2_ n3_; (try clear hb); (try clear hb2); (try clear hk); (try clear hi); (try clear ho0); (try clear ho1); (try clear ho2)) | ((with_reducible refine gate_dst (N := 1) rfl ?_); refine box_event ?hg (N := 1) ?hd (cs := #[.slice none 0 0, .slice none 0 0, .int .i64 0, .slice none 0 0]) (t := 25) ?hr ?_; (case hd => rfl); (case hg => rfl); (case hr => first | (go_simp; done) | (go_simp; rfl)); intro gb111 hg w27 hbox hb; have n0_ := Aside0.mk (Kd.R_below (by (with_reducible repeat (first | apply Kd.R_alloc | apply Kd.R_drewN | apply Kd.R_drew)); exact HO103.out) hb); have n1_ := Aside0.mk (Kd.R_below (by (with_reducible repeat (first | apply Kd.R_alloc | apply Kd.R_drewN | apply Kd.R_drew)); exact HO106.out) hb); have n2_ := Aside0.mk (Kd.N_below (Kd.N_elderB (by (with_reducible repeat (first | apply Kd.N_alloc | apply Kd.N_drewN | apply Kd.N_drew)); exact HO110.out) gb111 (Nat.le_of_eq hg.symm)) hb); have n3_ := Aside0.mk (below_step (by repeat (first | (with_reducible first | exact HB.out | apply below_alloc | apply pw_below_drewN | apply below_drew1) | exact HB.out)) hb); have n4_ := Aside0.mk (hbox); have n5_ := Aside0.mk ((by rw [hg]; exact (below_size (by repeat (first | (with_reducible first | exact HB.out | apply below_alloc | apply pw_below_drewN | apply below_drew1) | exact HB.out))) : w.heap.size ≤ gb111)); have n6_ := Aside0.mk ((by rw [hg]; exact (below_size (by repeat (first | (with_reducible first | exact HB.out | apply below_alloc | apply pw_below_drewN | apply below_drew1) | exact HB.out))) : w.heap.size ≤ gb111)); clear HO103; clear HO106; clear HO110; clear HB; have HO103 := n0_; have HO106 := n1_; have HO110 := n2_; have HB := n3_; have BK111 := n4_; have GW111 := n5_; have GE111 := n6_; clear n0_ n1_ n2_ n3_ n4_ n5_ n6_; clear hb hbox hg; obtain ⟨Ao28, co28, eo28⟩ := Kd.R_slice HO103.out; subst eo28; have hcz29_0 : w27.cell? ⟨gb111, 0, none⟩ = some (.slice none 0 0) := (blk_cell BK111.out 0).trans rfl; have hcz29_1 : w27.cell? ⟨gb111, 1, none⟩ = some (.slice none 0 0) := (blk_cell BK111.out 1).trans rfl; have hcz29_2 : w27.cell? ⟨gb111, 2, none⟩ = some (.int .i64 0) := (blk_cell BK111.out 2).trans rfl; have hcz29_3 : w27.cell? ⟨gb111, 3, none⟩ = some (.slice none 0 0) := (blk_cell BK111.out 3).trans rfl; have hfz29_0 := blk_frozen BK111.out 0; have hfz29_1 := blk_frozen BK111.out 1; have hfz29_2 := blk_frozen BK111.out 2; have hfz29_3 := blk_frozen BK111.out 3; obtain ⟨Ao30, co30, eo30⟩ := Kd.R_slice HO106.out; subst eo30; obtain ⟨Ao31, co31, eo31⟩ := Kd.N_slice HO110.out; subst eo31) | ((with_reducible refine gate_callee (f := 47) rfl ?_); refine goesL_ (some 3) rfl rfl Tryd.func47 (by kernel_rfl) rfl #[] rfl (by (try simp only [List.map_toArray, List.map_cons, List.map_nil]); first | done | rfl | (simp only [List.length_drop, List.length_take]; rfl)) ?_; (with_reducible refine (wickerlaw01_Awake.calls k  true _ ?side1 A2.out).mono ?_); (case side1 => exact Laid.below HG.out (by repeat (first | (with_reducible first | exact HB.out | apply below_alloc | apply pw_below_drewN | apply below_drew1 | refine below_set ?_ GE111.out) | exact HB.out))); rintro e w32 ⟨rfl, hb⟩; refine ⟨_, rfl, ?_⟩; have n0_ := Aside0.mk (Kd.R_below (by (with_reducible repeat (first | apply Kd.R_alloc | apply Kd.R_drewN | apply Kd.R_drew)); exact (Kd.R_mono (Kd.R_far (p := ⟨gb111, 3, none⟩) (Kd.R_far (p := ⟨gb111, 2, none⟩) (Kd.R_far (p := ⟨gb111, 1, none⟩) (Kd.R_far (p := ⟨gb111, 0, none⟩) (Kd.R_types HO103.out BK111.out (by decide)) (fun _ hk => hk.2) (.slice Ao28 t101.length co28)) (fun _ hk => hk.2) (.slice Ao30 t104.length co30)) (fun _ hk => hk.2) (.int .i64 t107)) (fun _ hk => hk.2) (.slice Ao31 t108.length co31)) (fun _ h_ => h_.1))) hb); have n1_ := Aside0.mk (Kd.R_below (by (with_reducible repeat (first | apply Kd.R_alloc | apply Kd.R_drewN | apply Kd.R_drew)); exact (Kd.R_mono (Kd.R_far (p := ⟨gb111, 3, none⟩) (Kd.R_far (p := ⟨gb111, 2, none⟩) (Kd.R_far (p := ⟨gb111, 1, none⟩) (Kd.R_far (p := ⟨gb111, 0, none⟩) (Kd.R_types HO106.out BK111.out (by decide)) (fun _ hk => hk.2) (.slice Ao28 t101.length co28)) (fun _ hk => hk.2) (.slice Ao30 t104.length co30)) (fun _ hk => hk.2) (.int .i64 t107)) (fun _ hk => hk.2) (.slice Ao31 t108.length co31)) (fun _ h_ => h_.1))) hb); have n2_ := Aside0.mk (Kd.N_below (by (with_reducible repeat (first | apply Kd.N_alloc | apply Kd.N_drewN | apply Kd.N_drew)); exact (Kd.N_mono (Kd.N_far (p := ⟨gb111, 3, none⟩) (Kd.N_far (p := ⟨gb111, 2, none⟩) (Kd.N_far (p := ⟨gb111, 1, none⟩) (Kd.N_far (p := ⟨gb111, 0, none⟩) (Kd.N_mono HO110.out (fun k_ hk => (⟨hk, hk.2⟩ : _ ∧ k_ ≠ gb111))) (fun _ hk => hk.2) (.slice Ao28 t101.length co28)) (fun _ hk => hk.2) (.slice Ao30 t104.length co30)) (fun _ hk => hk.2) (.int .i64 t107)) (fun _ hk => hk.2) (.slice Ao31 t108.length co31)) (fun _ h_ => h_.1))) hb); have n3_ := Aside0.mk (blk_below (g := gb111) (o := .cells #[.slice Ao28 t101.length co28, .slice Ao30 t104.length co30, .int .i64 t107, .slice Ao31 t108.length co31] 25 (0, 0)) (by (with_reducible repeat (first | refine blk_drewN ?_ _ | refine blk_drew ?_ | refine blk_alloc ?_ _)); refine blk_put (cs := #[.slice Ao28 t101.length co28, .slice Ao30 t104.length co30, .int .i64 t107, .slice none 0 0]) ?_ 3 _ rfl; (with_reducible repeat (first | refine blk_drewN ?_ _ | refine blk_drew ?_ | refine blk_alloc ?_ _)); refine blk_put (cs := #[.slice Ao28 t101.length co28, .slice Ao30 t104.length co30, .int .i64 0, .slice none 0 0]) ?_ 2 _ rfl; (with_reducible repeat (first | refine blk_drewN ?_ _ | refine blk_drew ?_ | refine blk_alloc ?_ _)); refine blk_put (cs := #[.slice Ao28 t101.length co28, .slice none 0 0, .int .i64 0, .slice none 0 0]) ?_ 1 _ rfl; (with_reducible repeat (first | refine blk_drewN ?_ _ | refine blk_drew ?_ | refine blk_alloc ?_ _)); refine blk_put (cs := #[.slice none 0 0, .slice none 0 0, .int .i64 0, .slice none 0 0]) ?_ 0 _ rfl; (with_reducible repeat (first | refine blk_drewN ?_ _ | refine blk_drew ?_ | refine blk_alloc ?_ _)); exact BK111.out) hb); have n4_ := Aside0.mk (below_step (by repeat (first | (with_reducible first | exact HB.out | apply below_alloc | apply pw_below_drewN | apply below_drew1 | refine below_set ?_ GE111.out) | exact HB.out)) hb); clear HO103; clear HO106; clear HO110; clear BK111; clear HB; have HO103 := n0_; have HO106 := n1_; have HO110 := n2_; have BK111 := n3_; have HB := n4_; clear n0_ n1_ n2_ n3_ n4_; (try clear hb); (try clear hb2); (try clear hk); (try clear hi); have hcz33_0 : w32.cell? ⟨gb111, 0, none⟩ = some (.slice Ao28 t101.length co28) := (blk_cell BK111.out 0).trans rfl; have hcz33_1 : w32.cell? ⟨gb111, 1, none⟩ = some (.slice Ao30 t104.length co30) := (blk_cell BK111.out 1).trans rfl; have hcz33_2 : w32.cell? ⟨gb111, 2, none⟩ = some (.int .i64 t107) := (blk_cell BK111.out 2).trans rfl; have hcz33_3 : w32.cell? ⟨gb111, 3, none⟩ = some (.slice Ao31 t108.length co31) := (blk_cell BK111.out 3).trans rfl; have hfz33_0 := blk_frozen BK111.out 0; have hfz33_1 := blk_frozen BK111.out 1; have hfz33_2 := blk_frozen BK111.out 2; have hfz33_3 := blk_frozen BK111.out 3) | (go_at_call 48; (with_reducible refine (gram_Grammar_Check.calls _ _ t101 _ _ t104 t107 _ _ t108 t113 _ ?side1 ?side2 ?side3 ?side4 ?side5 ?side6 ?side7 A4.out).mono ?_); (case side1 => exact Laid.below HG.out (by repeat (first | (with_reducible first | exact HB.out | apply below_alloc | apply pw_below_drewN | apply below_drew1 | refine below_set ?_ GE111.out) | exact HB.out))); (case side2 => repeat (first | exact (Kd.R_reads' HO103.out).2.2 | (with_reducible refine Kd.C_alloc ?_ _) | (with_reducible refine Kd.C_drewN ?_ _) | (with_reducible refine Kd.C_drew ?_))); (case side3 => exact (Kd.R_reads' HO103.out).2.1); (case side4 => repeat (first | exact (Kd.R_reads' HO106.out).2.2 | (with_reducible refine Kd.C_alloc ?_ _) | (with_reducible refine Kd.C_drewN ?_ _) | (with_reducible refine Kd.C_drew ?_))); (case side5 => exact (Kd.R_reads' HO106.out).2.1); (case side6 => repeat (first | exact (Kd.N_reads' HO110.out).2.2 | (with_reducible refine Kd.C_alloc ?_ _) | (with_reducible refine Kd.C_drewN ?_ _) | (with_reducible refine Kd.C_drew ?_))); (case side7 => exact (Kd.N_reads' HO110.out).2.1); rintro e w34 ⟨rfl, hb⟩; have n0_ := Aside0.mk (Kd.R_below (by (with_reducible repeat (first | apply Kd.R_alloc | apply Kd.R_drewN | apply Kd.R_drew)); exact HO103.out) hb); have n1_ := Aside0.mk (Kd.R_below (by (with_reducible repeat (first | apply Kd.R_alloc | apply Kd.R_drewN | apply Kd.R_drew)); exact HO106.out) hb); have n2_ := Aside0.mk (Kd.N_below (by (with_reducible repeat (first | apply Kd.N_alloc | apply Kd.N_drewN | apply Kd.N_drew)); exact HO110.out) hb); have n3_ := Aside0.mk (blk_below (g := gb111) (o := .cells #[.slice Ao28 t101.length co28, .slice Ao30 t104.length co30, .int .i64 t107, .slice Ao31 t108.length co31] 25 (0, 0)) (by (with_reducible repeat (first | refine blk_drewN ?_ _ | refine blk_drew ?_ | refine blk_alloc ?_ _)); exact BK111.out) hb); have n4_ := Aside0.mk (below_step (by repeat (first | (with_reducible first | exact HB.out | apply below_alloc | apply pw_below_drewN | apply below_drew1 | refine below_set ?_ GE111.out) | exact HB.out)) hb); clear HO103; clear HO106; clear HO110; clear BK111; clear HB; have HO103 := n0_; have HO106 := n1_; have HO110 := n2_; have BK111 := n3_; have HB := n4_; clear n0_ n1_ n2_ n3_ n4_; (try clear hb); (try clear hb2); (try clear hk); (try clear hi); have hcz35_0 : w34.cell? ⟨gb111, 0, none⟩ = some (.slice Ao28 t101.length co28) := (blk_cell BK111.out 0).trans rfl; have hcz35_1 : w34.cell? ⟨gb111, 1, none⟩ = some (.slice Ao30 t104.length co30) := (blk_cell BK111.out 1).trans rfl; have hcz35_2 : w34.cell? ⟨gb111, 2, none⟩ = some (.int .i64 t107) := (blk_cell BK111.out 2).trans rfl; have hcz35_3 : w34.cell? ⟨gb111, 3, none⟩ = some (.slice Ao31 t108.length co31) := (blk_cell BK111.out 3).trans rfl; have hfz35_0 := blk_frozen BK111.out 0; have hfz35_1 := blk_frozen BK111.out 1; have hfz35_2 := blk_frozen BK111.out 2; have hfz35_3 := blk_frozen BK111.out 3) | (go_at_call 49; (with_reducible refine (gram_Grammar_Size.calls k _ _ t101 _ _ t104 t107 _ _ t108 t114 _ ?side1 ?side2 ?side3 ?side4 ?side5 ?side6 A6.out).mono ?_); (case side1 => repeat (first | exact (Kd.R_reads' HO103.out).2.2 | (with_reducible refine Kd.C_alloc ?_ _) | (with_reducible refine Kd.C_drewN ?_ _) | (with_reducible refine Kd.C_drew ?_))); (case side2 => exact (Kd.R_reads' HO103.out).2.1); (case side3 => repeat (first | exact (Kd.R_reads' HO106.out).2.2 | (with_reducible refine Kd.C_alloc ?_ _) | (with_reducible refine Kd.C_drewN ?_ _) | (with_reducible refine Kd.C_drew ?_))); (case side4 => exact (Kd.R_reads' HO106.out).2.1); (case side5 => repeat (first | exact (Kd.N_reads' HO110.out).2.2 | (with_reducible refine Kd.C_alloc ?_ _) | (with_reducible refine Kd.C_drewN ?_ _) | (with_reducible refine Kd.C_drew ?_))); (case side6 => exact (Kd.N_reads' HO110.out).2.1); rintro e w36 ⟨rfl, hb⟩; have n0_ := Aside0.mk (Kd.R_below (by (with_reducible repeat (first | apply Kd.R_alloc | apply Kd.R_drewN | apply Kd.R_drew)); exact HO103.out) hb); have n1_ := Aside0.mk (Kd.R_below (by (with_reducible repeat (first | apply Kd.R_alloc | apply Kd.R_drewN | apply Kd.R_drew)); exact HO106.out) hb); have n2_ := Aside0.mk (Kd.N_below (by (with_reducible repeat (first | apply Kd.N_alloc | apply Kd.N_drewN | apply Kd.N_drew)); exact HO110.out) hb); have n3_ := Aside0.mk (blk_below (g := gb111) (o := .cells #[.slice Ao28 t101.length co28, .slice Ao30 t104.length co30, .int .i64 t107, .slice Ao31 t108.length co31] 25 (0, 0)) (by (with_reducible repeat (first | refine blk_drewN ?_ _ | refine blk_drew ?_ | refine blk_alloc ?_ _)); exact BK111.out) hb); have n4_ := Aside0.mk (below_step (by repeat (first | (with_reducible first | exact HB.out | apply below_alloc | apply pw_below_drewN | apply below_drew1 | refine below_set ?_ GE111.out) | exact HB.out)) hb); clear HO103; clear HO106; clear HO110; clear BK111; clear HB; have HO103 := n0_; have HO106 := n1_; have HO110 := n2_; have BK111 := n3_; have HB := n4_; clear n0_ n1_ n2_ n3_ n4_; (try clear hb); (try clear hb2); (try clear hk); (try clear hi); have hcz37_0 : w36.cell? ⟨gb111, 0, none⟩ = some (.slice Ao28 t101.length co28) := (blk_cell BK111.out 0).trans rfl; have hcz37_1 : w36.cell? ⟨gb111, 1, none⟩ = some (.slice Ao30 t104.length co30) := (blk_cell BK111.out 1).trans rfl; have hcz37_2 : w36.cell? ⟨gb111, 2, none⟩ = some (.int .i64 t107) := (blk_cell BK111.out 2).trans rfl; have hcz37_3 : w36.cell? ⟨gb111, 3, none⟩ = some (.slice Ao31 t108.length co31) := (blk_cell BK111.out 3).trans rfl; have hfz37_0 := blk_frozen BK111.out 0; have hfz37_1 := blk_frozen BK111.out 1; have hfz37_2 := blk_frozen BK111.out 2; have hfz37_3 := blk_frozen BK111.out 3) | (go_at_call 50; (with_reducible refine (gram_Grammar_Text.calls _ _ t101 _ _ t104 t107 _ _ t108 (-1) t115 _ ?side1 ?side2 ?side3 ?side4 ?side5 ?side6 A8.out).mono ?_); (case side1 => repeat (first | exact (Kd.R_reads' HO103.out).2.2 | (with_reducible refine Kd.C_alloc ?_ _) | (with_reducible refine Kd.C_drewN ?_ _) | (with_reducible refine Kd.C_drew ?_))); (case side2 => exact (Kd.R_reads' HO103.out).2.1); (case side3 => repeat (first | exact (Kd.R_reads' HO106.out).2.2 | (with_reducible refine Kd.C_alloc ?_ _) | (with_reducible refine Kd.C_drewN ?_ _) | (with_reducible refine Kd.C_drew ?_))); (case side4 => exact (Kd.R_reads' HO106.out).2.1); (case side5 => repeat (first | exact (Kd.N_reads' HO110.out).2.2 | (with_reducible refine Kd.C_alloc ?_ _) | (with_reducible refine Kd.C_drewN ?_ _) | (with_reducible refine Kd.C_drew ?_))); (case side6 => exact (Kd.N_reads' HO110.out).2.1); rintro e w38 ⟨rfl, hb⟩; have n0_ := Aside0.mk (Kd.R_below (by (with_reducible repeat (first | apply Kd.R_alloc | apply Kd.R_drewN | apply Kd.R_drew)); exact HO103.out) hb); have n1_ := Aside0.mk (Kd.R_below (by (with_reducible repeat (first | apply Kd.R_alloc | apply Kd.R_drewN | apply Kd.R_drew)); exact HO106.out) hb); have n2_ := Aside0.mk (Kd.N_below (by (with_reducible repeat (first | apply Kd.N_alloc | apply Kd.N_drewN | apply Kd.N_drew)); exact HO110.out) hb); have n3_ := Aside0.mk (blk_below (g := gb111) (o := .cells #[.slice Ao28 t101.length co28, .slice Ao30 t104.length co30, .int .i64 t107, .slice Ao31 t108.length co31] 25 (0, 0)) (by (with_reducible repeat (first | refine blk_drewN ?_ _ | refine blk_drew ?_ | refine blk_alloc ?_ _)); exact BK111.out) hb); have n4_ := Aside0.mk (below_step (by repeat (first | (with_reducible first | exact HB.out | apply below_alloc | apply pw_below_drewN | apply below_drew1 | refine below_set ?_ GE111.out) | exact HB.out)) hb); clear HO103; clear HO106; clear HO110; clear BK111; clear HB; have HO103 := n0_; have HO106 := n1_; have HO110 := n2_; have BK111 := n3_; have HB := n4_; clear n0_ n1_ n2_ n3_ n4_; (try clear hb); (try clear hb2); (try clear hk); (try clear hi)))
     go_ret
     exact ⟨by first | rfl | (simp [errW_none, errW_some] <;> rfl) | (simp [*, errW_none, errW_some] <;> rfl), by repeat (first | (with_reducible first | exact HB.out | apply below_alloc | apply pw_below_drewN | apply below_drew1 | refine below_set ?_ GE111.out) | exact HB.out)⟩
   ·rw [if_neg c7] at H
    have c7b0 : (t114 == 4) = false := beq_eq_false_iff_ne.mpr c7
    have c7b1 : (t114 != 4) = true := bne_iff_ne.mpr c7
    obtain rfl := Option.some.inj H
    go_enter Tryd.func19, Tryd.ntmps19
    go_wp2_with (first | ((with_reducible refine gate_callee (f := 46) rfl ?_); refine goesL_ (some 2) rfl rfl Tryd.func46 (by kernel_rfl) rfl #[] rfl (by (try simp only [List.map_toArray, List.map_cons, List.map_nil]); first | done | rfl | (simp only [List.length_drop, List.length_take]; rfl)) ?_; (with_reducible refine (wickerlaw02_Example.calls  t101 t104 t107 t108 _ A1.out).mono ?_); rintro e w39 ⟨v102, v105, v109, rfl, ho0, ho1, ho2, hb⟩; refine ⟨_, rfl, ?_⟩; have n0_ := Aside0.mk (Kd.R_lower (Kd.R_mono (ok' := fun k_ => some k_ ≠ (v105 : Value).ownBlock) ho0 (fun _ hk_ => hk_.2)) (below_size (by repeat (first | (with_reducible first | exact HB.out | apply below_alloc | apply pw_below_drewN | apply below_drew1) | exact HB.out)))); have n1_ := Aside0.mk (Kd.R_lower (Kd.R_mono (ok' := fun k_ => some k_ ≠ (v102 : Value).ownBlock) ho1 (fun _ hk_ => hk_.2)) (below_size (by repeat (first | (with_reducible first | exact HB.out | apply below_alloc | apply pw_below_drewN | apply below_drew1) | exact HB.out)))); have n2_ := Aside0.mk (Kd.N_lower (Kd.N_mono (ok' := fun k_ => some k_ ≠ (v102 : Value).ownBlock ∧ some k_ ≠ (v105 : Value).ownBlock) ho2 (fun k_ hk_ => ⟨hk_.2.1, hk_.2.2⟩)) (below_size (by repeat (first | (with_reducible first | exact HB.out | apply below_alloc | apply pw_below_drewN | apply below_drew1) | exact HB.out)))); have n3_ := Aside0.mk (below_step (by repeat (first | (with_reducible first | exact HB.out | apply below_alloc | apply pw_below_drewN | apply below_drew1) | exact HB.out)) hb); clear HB; have HO103 := n0_; have HO106 := n1_; have HO110 := n2_; have HB := n3_; clear n0_ n1_ n2_ n3_; (try clear hb); (try clear hb2); (try clear hk); (try clear hi); (try clear ho0); (try clear ho1); (try clear ho2)) | ((with_reducible refine gate_dst (N := 1) rfl ?_); refine box_event ?hg (N := 1) ?hd (cs := #[.slice none 0 0, .slice none 0 0, .int .i64 0, .slice none 0 0]) (t := 25) ?hr ?_; (case hd => rfl); (case hg => rfl); (case hr => first | (go_simp; done) | (go_simp; rfl)); intro gb111 hg w40 hbox hb; have n0_ := Aside0.mk (Kd.R_below (by (with_reducible repeat (first | apply Kd.R_alloc | apply Kd.R_drewN | apply Kd.R_drew)); exact HO103.out) hb); have n1_ := Aside0.mk (Kd.R_below (by (with_reducible repeat (first | apply Kd.R_alloc | apply Kd.R_drewN | apply Kd.R_drew)); exact HO106.out) hb); have n2_ := Aside0.mk (Kd.N_below (Kd.N_elderB (by (with_reducible repeat (first | apply Kd.N_alloc | apply Kd.N_drewN | apply Kd.N_drew)); exact HO110.out) gb111 (Nat.le_of_eq hg.symm)) hb); have n3_ := Aside0.mk (below_step (by repeat (first | (with_reducible first | exact HB.out | apply below_alloc | apply pw_below_drewN | apply below_drew1) | exact HB.out)) hb); have n4_ := Aside0.mk (hbox); have n5_ := Aside0.mk ((by rw [hg]; exact (below_size (by repeat (first | (with_reducible first | exact HB.out | apply below_alloc | apply pw_below_drewN | apply below_drew1) | exact HB.out))) : w.heap.size ≤ gb111)); have n6_ := Aside0.mk ((by rw [hg]; exact (below_size (by repeat (first | (with_reducible first | exact HB.out | apply below_alloc | apply pw_below_drewN | apply below_drew1) | exact HB.out))) : w.heap.size ≤ gb111)); clear HO103; clear HO106; clear HO110; clear HB; have HO103 := n0_; have HO106 := n1_; have HO110 := n2_; have HB := n3_; have BK111 := n4_; have GW111 := n5_; have GE111 := n6_; clear n0_ n1_ n2_ n3_ n4_ n5_ n6_; clear hb hbox hg; obtain ⟨Ao41, co41, eo41⟩ := Kd.R_slice HO103.out; subst eo41; have hcz42_0 : w40.cell? ⟨gb111, 0, none⟩ = some (.slice none 0 0) := (blk_cell BK111.out 0).trans rfl; have hcz42_1 : w40.cell? ⟨gb111, 1, none⟩ = some (.slice none 0 0) := (blk_cell BK111.out 1).trans rfl; have hcz42_2 : w40.cell? ⟨gb111, 2, none⟩ = some (.int .i64 0) := (blk_cell BK111.out 2).trans rfl; have hcz42_3 : w40.cell? ⟨gb111, 3, none⟩ = some (.slice none 0 0) := (blk_cell BK111.out 3).trans rfl; have hfz42_0 := blk_frozen BK111.out 0; have hfz42_1 := blk_frozen BK111.out 1; have hfz42_2 := blk_frozen BK111.out 2; have hfz42_3 := blk_frozen BK111.out 3; obtain ⟨Ao43, co43, eo43⟩ := Kd.R_slice HO106.out; subst eo43; obtain ⟨Ao44, co44, eo44⟩ := Kd.N_slice HO110.out; subst eo44) | ((with_reducible refine gate_callee (f := 47) rfl ?_); refine goesL_ (some 3) rfl rfl Tryd.func47 (by kernel_rfl) rfl #[] rfl (by (try simp only [List.map_toArray, List.map_cons, List.map_nil]); first | done | rfl | (simp only [List.length_drop, List.length_take]; rfl)) ?_; (with_reducible refine (wickerlaw01_Awake.calls k  true _ ?side1 A2.out).mono ?_); (case side1 => exact Laid.below HG.out (by repeat (first | (with_reducible first | exact HB.out | apply below_alloc | apply pw_below_drewN | apply below_drew1 | refine below_set ?_ GE111.out) | exact HB.out))); rintro e w45 ⟨rfl, hb⟩; refine ⟨_, rfl, ?_⟩; have n0_ := Aside0.mk (Kd.R_below (by (with_reducible repeat (first | apply Kd.R_alloc | apply Kd.R_drewN | apply Kd.R_drew)); exact (Kd.R_mono (Kd.R_far (p := ⟨gb111, 3, none⟩) (Kd.R_far (p := ⟨gb111, 2, none⟩) (Kd.R_far (p := ⟨gb111, 1, none⟩) (Kd.R_far (p := ⟨gb111, 0, none⟩) (Kd.R_types HO103.out BK111.out (by decide)) (fun _ hk => hk.2) (.slice Ao41 t101.length co41)) (fun _ hk => hk.2) (.slice Ao43 t104.length co43)) (fun _ hk => hk.2) (.int .i64 t107)) (fun _ hk => hk.2) (.slice Ao44 t108.length co44)) (fun _ h_ => h_.1))) hb); have n1_ := Aside0.mk (Kd.R_below (by (with_reducible repeat (first | apply Kd.R_alloc | apply Kd.R_drewN | apply Kd.R_drew)); exact (Kd.R_mono (Kd.R_far (p := ⟨gb111, 3, none⟩) (Kd.R_far (p := ⟨gb111, 2, none⟩) (Kd.R_far (p := ⟨gb111, 1, none⟩) (Kd.R_far (p := ⟨gb111, 0, none⟩) (Kd.R_types HO106.out BK111.out (by decide)) (fun _ hk => hk.2) (.slice Ao41 t101.length co41)) (fun _ hk => hk.2) (.slice Ao43 t104.length co43)) (fun _ hk => hk.2) (.int .i64 t107)) (fun _ hk => hk.2) (.slice Ao44 t108.length co44)) (fun _ h_ => h_.1))) hb); have n2_ := Aside0.mk (Kd.N_below (by (with_reducible repeat (first | apply Kd.N_alloc | apply Kd.N_drewN | apply Kd.N_drew)); exact (Kd.N_mono (Kd.N_far (p := ⟨gb111, 3, none⟩) (Kd.N_far (p := ⟨gb111, 2, none⟩) (Kd.N_far (p := ⟨gb111, 1, none⟩) (Kd.N_far (p := ⟨gb111, 0, none⟩) (Kd.N_mono HO110.out (fun k_ hk => (⟨hk, hk.2⟩ : _ ∧ k_ ≠ gb111))) (fun _ hk => hk.2) (.slice Ao41 t101.length co41)) (fun _ hk => hk.2) (.slice Ao43 t104.length co43)) (fun _ hk => hk.2) (.int .i64 t107)) (fun _ hk => hk.2) (.slice Ao44 t108.length co44)) (fun _ h_ => h_.1))) hb); have n3_ := Aside0.mk (blk_below (g := gb111) (o := .cells #[.slice Ao41 t101.length co41, .slice Ao43 t104.length co43, .int .i64 t107, .slice Ao44 t108.length co44] 25 (0, 0)) (by (with_reducible repeat (first | refine blk_drewN ?_ _ | refine blk_drew ?_ | refine blk_alloc ?_ _)); refine blk_put (cs := #[.slice Ao41 t101.length co41, .slice Ao43 t104.length co43, .int .i64 t107, .slice none 0 0]) ?_ 3 _ rfl; (with_reducible repeat (first | refine blk_drewN ?_ _ | refine blk_drew ?_ | refine blk_alloc ?_ _)); refine blk_put (cs := #[.slice Ao41 t101.length co41, .slice Ao43 t104.length co43, .int .i64 0, .slice none 0 0]) ?_ 2 _ rfl; (with_reducible repeat (first | refine blk_drewN ?_ _ | refine blk_drew ?_ | refine blk_alloc ?_ _)); refine blk_put (cs := #[.slice Ao41 t101.length co41, .slice none 0 0, .int .i64 0, .slice none 0 0]) ?_ 1 _ rfl; (with_reducible repeat (first | refine blk_drewN ?_ _ | refine blk_drew ?_ | refine blk_alloc ?_ _)); refine blk_put (cs := #[.slice none 0 0, .slice none 0 0, .int .i64 0, .slice none 0 0]) ?_ 0 _ rfl; (with_reducible repeat (first | refine blk_drewN ?_ _ | refine blk_drew ?_ | refine blk_alloc ?_ _)); exact BK111.out) hb); have n4_ := Aside0.mk (below_step (by repeat (first | (with_reducible first | exact HB.out | apply below_alloc | apply pw_below_drewN | apply below_drew1 | refine below_set ?_ GE111.out) | exact HB.out)) hb); clear HO103; clear HO106; clear HO110; clear BK111; clear HB; have HO103 := n0_; have HO106 := n1_; have HO110 := n2_; have BK111 := n3_; have HB := n4_; clear n0_ n1_ n2_ n3_ n4_; (try clear hb); (try clear hb2); (try clear hk); (try clear hi); have hcz46_0 : w45.cell? ⟨gb111, 0, none⟩ = some (.slice Ao41 t101.length co41) := (blk_cell BK111.out 0).trans rfl; have hcz46_1 : w45.cell? ⟨gb111, 1, none⟩ = some (.slice Ao43 t104.length co43) := (blk_cell BK111.out 1).trans rfl; have hcz46_2 : w45.cell? ⟨gb111, 2, none⟩ = some (.int .i64 t107) := (blk_cell BK111.out 2).trans rfl; have hcz46_3 : w45.cell? ⟨gb111, 3, none⟩ = some (.slice Ao44 t108.length co44) := (blk_cell BK111.out 3).trans rfl; have hfz46_0 := blk_frozen BK111.out 0; have hfz46_1 := blk_frozen BK111.out 1; have hfz46_2 := blk_frozen BK111.out 2; have hfz46_3 := blk_frozen BK111.out 3) | (go_at_call 48; (with_reducible refine (gram_Grammar_Check.calls _ _ t101 _ _ t104 t107 _ _ t108 t113 _ ?side1 ?side2 ?side3 ?side4 ?side5 ?side6 ?side7 A4.out).mono ?_); (case side1 => exact Laid.below HG.out (by repeat (first | (with_reducible first | exact HB.out | apply below_alloc | apply pw_below_drewN | apply below_drew1 | refine below_set ?_ GE111.out) | exact HB.out))); (case side2 => repeat (first | exact (Kd.R_reads' HO103.out).2.2 | (with_reducible refine Kd.C_alloc ?_ _) | (with_reducible refine Kd.C_drewN ?_ _) | (with_reducible refine Kd.C_drew ?_))); (case side3 => exact (Kd.R_reads' HO103.out).2.1); (case side4 => repeat (first | exact (Kd.R_reads' HO106.out).2.2 | (with_reducible refine Kd.C_alloc ?_ _) | (with_reducible refine Kd.C_drewN ?_ _) | (with_reducible refine Kd.C_drew ?_))); (case side5 => exact (Kd.R_reads' HO106.out).2.1); (case side6 => repeat (first | exact (Kd.N_reads' HO110.out).2.2 | (with_reducible refine Kd.C_alloc ?_ _) | (with_reducible refine Kd.C_drewN ?_ _) | (with_reducible refine Kd.C_drew ?_))); (case side7 => exact (Kd.N_reads' HO110.out).2.1); rintro e w47 ⟨rfl, hb⟩; have n0_ := Aside0.mk (Kd.R_below (by (with_reducible repeat (first | apply Kd.R_alloc | apply Kd.R_drewN | apply Kd.R_drew)); exact HO103.out) hb); have n1_ := Aside0.mk (Kd.R_below (by (with_reducible repeat (first | apply Kd.R_alloc | apply Kd.R_drewN | apply Kd.R_drew)); exact HO106.out) hb); have n2_ := Aside0.mk (Kd.N_below (by (with_reducible repeat (first | apply Kd.N_alloc | apply Kd.N_drewN | apply Kd.N_drew)); exact HO110.out) hb); have n3_ := Aside0.mk (blk_below (g := gb111) (o := .cells #[.slice Ao41 t101.length co41, .slice Ao43 t104.length co43, .int .i64 t107, .slice Ao44 t108.length co44] 25 (0, 0)) (by (with_reducible repeat (first | refine blk_drewN ?_ _ | refine blk_drew ?_ | refine blk_alloc ?_ _)); exact BK111.out) hb); have n4_ := Aside0.mk (below_step (by repeat (first | (with_reducible first | exact HB.out | apply below_alloc | apply pw_below_drewN | apply below_drew1 | refine below_set ?_ GE111.out) | exact HB.out)) hb); clear HO103; clear HO106; clear HO110; clear BK111; clear HB; have HO103 := n0_; have HO106 := n1_; have HO110 := n2_; have BK111 := n3_; have HB := n4_; clear n0_ n1_ n2_ n3_ n4_; (try clear hb); (try clear hb2); (try clear hk); (try clear hi); have hcz48_0 : w47.cell? ⟨gb111, 0, none⟩ = some (.slice Ao41 t101.length co41) := (blk_cell BK111.out 0).trans rfl; have hcz48_1 : w47.cell? ⟨gb111, 1, none⟩ = some (.slice Ao43 t104.length co43) := (blk_cell BK111.out 1).trans rfl; have hcz48_2 : w47.cell? ⟨gb111, 2, none⟩ = some (.int .i64 t107) := (blk_cell BK111.out 2).trans rfl; have hcz48_3 : w47.cell? ⟨gb111, 3, none⟩ = some (.slice Ao44 t108.length co44) := (blk_cell BK111.out 3).trans rfl; have hfz48_0 := blk_frozen BK111.out 0; have hfz48_1 := blk_frozen BK111.out 1; have hfz48_2 := blk_frozen BK111.out 2; have hfz48_3 := blk_frozen BK111.out 3) | (go_at_call 49; (with_reducible refine (gram_Grammar_Size.calls k _ _ t101 _ _ t104 t107 _ _ t108 t114 _ ?side1 ?side2 ?side3 ?side4 ?side5 ?side6 A6.out).mono ?_); (case side1 => repeat (first | exact (Kd.R_reads' HO103.out).2.2 | (with_reducible refine Kd.C_alloc ?_ _) | (with_reducible refine Kd.C_drewN ?_ _) | (with_reducible refine Kd.C_drew ?_))); (case side2 => exact (Kd.R_reads' HO103.out).2.1); (case side3 => repeat (first | exact (Kd.R_reads' HO106.out).2.2 | (with_reducible refine Kd.C_alloc ?_ _) | (with_reducible refine Kd.C_drewN ?_ _) | (with_reducible refine Kd.C_drew ?_))); (case side4 => exact (Kd.R_reads' HO106.out).2.1); (case side5 => repeat (first | exact (Kd.N_reads' HO110.out).2.2 | (with_reducible refine Kd.C_alloc ?_ _) | (with_reducible refine Kd.C_drewN ?_ _) | (with_reducible refine Kd.C_drew ?_))); (case side6 => exact (Kd.N_reads' HO110.out).2.1); rintro e w49 ⟨rfl, hb⟩; have n0_ := Aside0.mk (Kd.R_below (by (with_reducible repeat (first | apply Kd.R_alloc | apply Kd.R_drewN | apply Kd.R_drew)); exact HO103.out) hb); have n1_ := Aside0.mk (Kd.R_below (by (with_reducible repeat (first | apply Kd.R_alloc | apply Kd.R_drewN | apply Kd.R_drew)); exact HO106.out) hb); have n2_ := Aside0.mk (Kd.N_below (by (with_reducible repeat (first | apply Kd.N_alloc | apply Kd.N_drewN | apply Kd.N_drew)); exact HO110.out) hb); have n3_ := Aside0.mk (blk_below (g := gb111) (o := .cells #[.slice Ao41 t101.length co41, .slice Ao43 t104.length co43, .int .i64 t107, .slice Ao44 t108.length co44] 25 (0, 0)) (by (with_reducible repeat (first | refine blk_drewN ?_ _ | refine blk_drew ?_ | refine blk_alloc ?_ _)); exact BK111.out) hb); have n4_ := Aside0.mk (below_step (by repeat (first | (with_reducible first | exact HB.out | apply below_alloc | apply pw_below_drewN | apply below_drew1 | refine below_set ?_ GE111.out) | exact HB.out)) hb); clear HO103; clear HO106; clear HO110; clear BK111; clear HB; have HO103 := n0_; have HO106 := n1_; have HO110 := n2_; have BK111 := n3_; have HB := n4_; clear n0_ n1_ n2_ n3_ n4_; (try clear hb); (try clear hb2); (try clear hk); (try clear hi)))
    go_ret
    exact ⟨by first | rfl | (simp [errW_none, errW_some] <;> rfl) | (simp [*, errW_none, errW_some] <;> rfl), by repeat (first | (with_reducible first | exact HB.out | apply below_alloc | apply pw_below_drewN | apply below_drew1 | refine below_set ?_ GE111.out) | exact HB.out)⟩
  ·rw [if_neg c5] at H
   have c5b0 : (t113 == 0) = false := beq_eq_false_iff_ne.mpr c5
   have c5b1 : (t113 != 0) = true := bne_iff_ne.mpr c5
   obtain rfl := Option.some.inj H
   go_enter Tryd.func19, Tryd.ntmps19
   go_wp2_with (first | ((with_reducible refine gate_callee (f := 46) rfl ?_); refine goesL_ (some 2) rfl rfl Tryd.func46 (by kernel_rfl) rfl #[] rfl (by (try simp only [List.map_toArray, List.map_cons, List.map_nil]); first | done | rfl | (simp only [List.length_drop, List.length_take]; rfl)) ?_; (with_reducible refine (wickerlaw02_Example.calls  t101 t104 t107 t108 _ A1.out).mono ?_); rintro e w50 ⟨v102, v105, v109, rfl, ho0, ho1, ho2, hb⟩; refine ⟨_, rfl, ?_⟩; have n0_ := Aside0.mk (Kd.R_lower (Kd.R_mono (ok' := fun k_ => some k_ ≠ (v105 : Value).ownBlock) ho0 (fun _ hk_ => hk_.2)) (below_size (by repeat (first | (with_reducible first | exact HB.out | apply below_alloc | apply pw_below_drewN | apply below_drew1) | exact HB.out)))); have n1_ := Aside0.mk (Kd.R_lower (Kd.R_mono (ok' := fun k_ => some k_ ≠ (v102 : Value).ownBlock) ho1 (fun _ hk_ => hk_.2)) (below_size (by repeat (first | (with_reducible first | exact HB.out | apply below_alloc | apply pw_below_drewN | apply below_drew1) | exact HB.out)))); have n2_ := Aside0.mk (Kd.N_lower (Kd.N_mono (ok' := fun k_ => some k_ ≠ (v102 : Value).ownBlock ∧ some k_ ≠ (v105 : Value).ownBlock) ho2 (fun k_ hk_ => ⟨hk_.2.1, hk_.2.2⟩)) (below_size (by repeat (first | (with_reducible first | exact HB.out | apply below_alloc | apply pw_below_drewN | apply below_drew1) | exact HB.out)))); have n3_ := Aside0.mk (below_step (by repeat (first | (with_reducible first | exact HB.out | apply below_alloc | apply pw_below_drewN | apply below_drew1) | exact HB.out)) hb); clear HB; have HO103 := n0_; have HO106 := n1_; have HO110 := n2_; have HB := n3_; clear n0_ n1_ n2_ n3_; (try clear hb); (try clear hb2); (try clear hk); (try clear hi); (try clear ho0); (try clear ho1); (try clear ho2)) | ((with_reducible refine gate_dst (N := 1) rfl ?_); refine box_event ?hg (N := 1) ?hd (cs := #[.slice none 0 0, .slice none 0 0, .int .i64 0, .slice none 0 0]) (t := 25) ?hr ?_; (case hd => rfl); (case hg => rfl); (case hr => first | (go_simp; done) | (go_simp; rfl)); intro gb111 hg w51 hbox hb; have n0_ := Aside0.mk (Kd.R_below (by (with_reducible repeat (first | apply Kd.R_alloc | apply Kd.R_drewN | apply Kd.R_drew)); exact HO103.out) hb); have n1_ := Aside0.mk (Kd.R_below (by (with_reducible repeat (first | apply Kd.R_alloc | apply Kd.R_drewN | apply Kd.R_drew)); exact HO106.out) hb); have n2_ := Aside0.mk (Kd.N_below (Kd.N_elderB (by (with_reducible repeat (first | apply Kd.N_alloc | apply Kd.N_drewN | apply Kd.N_drew)); exact HO110.out) gb111 (Nat.le_of_eq hg.symm)) hb); have n3_ := Aside0.mk (below_step (by repeat (first | (with_reducible first | exact HB.out | apply below_alloc | apply pw_below_drewN | apply below_drew1) | exact HB.out)) hb); have n4_ := Aside0.mk (hbox); have n5_ := Aside0.mk ((by rw [hg]; exact (below_size (by repeat (first | (with_reducible first | exact HB.out | apply below_alloc | apply pw_below_drewN | apply below_drew1) | exact HB.out))) : w.heap.size ≤ gb111)); have n6_ := Aside0.mk ((by rw [hg]; exact (below_size (by repeat (first | (with_reducible first | exact HB.out | apply below_alloc | apply pw_below_drewN | apply below_drew1) | exact HB.out))) : w.heap.size ≤ gb111)); clear HO103; clear HO106; clear HO110; clear HB; have HO103 := n0_; have HO106 := n1_; have HO110 := n2_; have HB := n3_; have BK111 := n4_; have GW111 := n5_; have GE111 := n6_; clear n0_ n1_ n2_ n3_ n4_ n5_ n6_; clear hb hbox hg; obtain ⟨Ao52, co52, eo52⟩ := Kd.R_slice HO103.out; subst eo52; have hcz53_0 : w51.cell? ⟨gb111, 0, none⟩ = some (.slice none 0 0) := (blk_cell BK111.out 0).trans rfl; have hcz53_1 : w51.cell? ⟨gb111, 1, none⟩ = some (.slice none 0 0) := (blk_cell BK111.out 1).trans rfl; have hcz53_2 : w51.cell? ⟨gb111, 2, none⟩ = some (.int .i64 0) := (blk_cell BK111.out 2).trans rfl; have hcz53_3 : w51.cell? ⟨gb111, 3, none⟩ = some (.slice none 0 0) := (blk_cell BK111.out 3).trans rfl; have hfz53_0 := blk_frozen BK111.out 0; have hfz53_1 := blk_frozen BK111.out 1; have hfz53_2 := blk_frozen BK111.out 2; have hfz53_3 := blk_frozen BK111.out 3; obtain ⟨Ao54, co54, eo54⟩ := Kd.R_slice HO106.out; subst eo54; obtain ⟨Ao55, co55, eo55⟩ := Kd.N_slice HO110.out; subst eo55) | ((with_reducible refine gate_callee (f := 47) rfl ?_); refine goesL_ (some 3) rfl rfl Tryd.func47 (by kernel_rfl) rfl #[] rfl (by (try simp only [List.map_toArray, List.map_cons, List.map_nil]); first | done | rfl | (simp only [List.length_drop, List.length_take]; rfl)) ?_; (with_reducible refine (wickerlaw01_Awake.calls k  true _ ?side1 A2.out).mono ?_); (case side1 => exact Laid.below HG.out (by repeat (first | (with_reducible first | exact HB.out | apply below_alloc | apply pw_below_drewN | apply below_drew1 | refine below_set ?_ GE111.out) | exact HB.out))); rintro e w56 ⟨rfl, hb⟩; refine ⟨_, rfl, ?_⟩; have n0_ := Aside0.mk (Kd.R_below (by (with_reducible repeat (first | apply Kd.R_alloc | apply Kd.R_drewN | apply Kd.R_drew)); exact (Kd.R_mono (Kd.R_far (p := ⟨gb111, 3, none⟩) (Kd.R_far (p := ⟨gb111, 2, none⟩) (Kd.R_far (p := ⟨gb111, 1, none⟩) (Kd.R_far (p := ⟨gb111, 0, none⟩) (Kd.R_types HO103.out BK111.out (by decide)) (fun _ hk => hk.2) (.slice Ao52 t101.length co52)) (fun _ hk => hk.2) (.slice Ao54 t104.length co54)) (fun _ hk => hk.2) (.int .i64 t107)) (fun _ hk => hk.2) (.slice Ao55 t108.length co55)) (fun _ h_ => h_.1))) hb); have n1_ := Aside0.mk (Kd.R_below (by (with_reducible repeat (first | apply Kd.R_alloc | apply Kd.R_drewN | apply Kd.R_drew)); exact (Kd.R_mono (Kd.R_far (p := ⟨gb111, 3, none⟩) (Kd.R_far (p := ⟨gb111, 2, none⟩) (Kd.R_far (p := ⟨gb111, 1, none⟩) (Kd.R_far (p := ⟨gb111, 0, none⟩) (Kd.R_types HO106.out BK111.out (by decide)) (fun _ hk => hk.2) (.slice Ao52 t101.length co52)) (fun _ hk => hk.2) (.slice Ao54 t104.length co54)) (fun _ hk => hk.2) (.int .i64 t107)) (fun _ hk => hk.2) (.slice Ao55 t108.length co55)) (fun _ h_ => h_.1))) hb); have n2_ := Aside0.mk (Kd.N_below (by (with_reducible repeat (first | apply Kd.N_alloc | apply Kd.N_drewN | apply Kd.N_drew)); exact (Kd.N_mono (Kd.N_far (p := ⟨gb111, 3, none⟩) (Kd.N_far (p := ⟨gb111, 2, none⟩) (Kd.N_far (p := ⟨gb111, 1, none⟩) (Kd.N_far (p := ⟨gb111, 0, none⟩) (Kd.N_mono HO110.out (fun k_ hk => (⟨hk, hk.2⟩ : _ ∧ k_ ≠ gb111))) (fun _ hk => hk.2) (.slice Ao52 t101.length co52)) (fun _ hk => hk.2) (.slice Ao54 t104.length co54)) (fun _ hk => hk.2) (.int .i64 t107)) (fun _ hk => hk.2) (.slice Ao55 t108.length co55)) (fun _ h_ => h_.1))) hb); have n3_ := Aside0.mk (blk_below (g := gb111) (o := .cells #[.slice Ao52 t101.length co52, .slice Ao54 t104.length co54, .int .i64 t107, .slice Ao55 t108.length co55] 25 (0, 0)) (by (with_reducible repeat (first | refine blk_drewN ?_ _ | refine blk_drew ?_ | refine blk_alloc ?_ _)); refine blk_put (cs := #[.slice Ao52 t101.length co52, .slice Ao54 t104.length co54, .int .i64 t107, .slice none 0 0]) ?_ 3 _ rfl; (with_reducible repeat (first | refine blk_drewN ?_ _ | refine blk_drew ?_ | refine blk_alloc ?_ _)); refine blk_put (cs := #[.slice Ao52 t101.length co52, .slice Ao54 t104.length co54, .int .i64 0, .slice none 0 0]) ?_ 2 _ rfl; (with_reducible repeat (first | refine blk_drewN ?_ _ | refine blk_drew ?_ | refine blk_alloc ?_ _)); refine blk_put (cs := #[.slice Ao52 t101.length co52, .slice none 0 0, .int .i64 0, .slice none 0 0]) ?_ 1 _ rfl; (with_reducible repeat (first | refine blk_drewN ?_ _ | refine blk_drew ?_ | refine blk_alloc ?_ _)); refine blk_put (cs := #[.slice none 0 0, .slice none 0 0, .int .i64 0, .slice none 0 0]) ?_ 0 _ rfl; (with_reducible repeat (first | refine blk_drewN ?_ _ | refine blk_drew ?_ | refine blk_alloc ?_ _)); exact BK111.out) hb); have n4_ := Aside0.mk (below_step (by repeat (first | (with_reducible first | exact HB.out | apply below_alloc | apply pw_below_drewN | apply below_drew1 | refine below_set ?_ GE111.out) | exact HB.out)) hb); clear HO103; clear HO106; clear HO110; clear BK111; clear HB; have HO103 := n0_; have HO106 := n1_; have HO110 := n2_; have BK111 := n3_; have HB := n4_; clear n0_ n1_ n2_ n3_ n4_; (try clear hb); (try clear hb2); (try clear hk); (try clear hi); have hcz57_0 : w56.cell? ⟨gb111, 0, none⟩ = some (.slice Ao52 t101.length co52) := (blk_cell BK111.out 0).trans rfl; have hcz57_1 : w56.cell? ⟨gb111, 1, none⟩ = some (.slice Ao54 t104.length co54) := (blk_cell BK111.out 1).trans rfl; have hcz57_2 : w56.cell? ⟨gb111, 2, none⟩ = some (.int .i64 t107) := (blk_cell BK111.out 2).trans rfl; have hcz57_3 : w56.cell? ⟨gb111, 3, none⟩ = some (.slice Ao55 t108.length co55) := (blk_cell BK111.out 3).trans rfl; have hfz57_0 := blk_frozen BK111.out 0; have hfz57_1 := blk_frozen BK111.out 1; have hfz57_2 := blk_frozen BK111.out 2; have hfz57_3 := blk_frozen BK111.out 3) | (go_at_call 48; (with_reducible refine (gram_Grammar_Check.calls _ _ t101 _ _ t104 t107 _ _ t108 t113 _ ?side1 ?side2 ?side3 ?side4 ?side5 ?side6 ?side7 A4.out).mono ?_); (case side1 => exact Laid.below HG.out (by repeat (first | (with_reducible first | exact HB.out | apply below_alloc | apply pw_below_drewN | apply below_drew1 | refine below_set ?_ GE111.out) | exact HB.out))); (case side2 => repeat (first | exact (Kd.R_reads' HO103.out).2.2 | (with_reducible refine Kd.C_alloc ?_ _) | (with_reducible refine Kd.C_drewN ?_ _) | (with_reducible refine Kd.C_drew ?_))); (case side3 => exact (Kd.R_reads' HO103.out).2.1); (case side4 => repeat (first | exact (Kd.R_reads' HO106.out).2.2 | (with_reducible refine Kd.C_alloc ?_ _) | (with_reducible refine Kd.C_drewN ?_ _) | (with_reducible refine Kd.C_drew ?_))); (case side5 => exact (Kd.R_reads' HO106.out).2.1); (case side6 => repeat (first | exact (Kd.N_reads' HO110.out).2.2 | (with_reducible refine Kd.C_alloc ?_ _) | (with_reducible refine Kd.C_drewN ?_ _) | (with_reducible refine Kd.C_drew ?_))); (case side7 => exact (Kd.N_reads' HO110.out).2.1); rintro e w58 ⟨rfl, hb⟩; have n0_ := Aside0.mk (Kd.R_below (by (with_reducible repeat (first | apply Kd.R_alloc | apply Kd.R_drewN | apply Kd.R_drew)); exact HO103.out) hb); have n1_ := Aside0.mk (Kd.R_below (by (with_reducible repeat (first | apply Kd.R_alloc | apply Kd.R_drewN | apply Kd.R_drew)); exact HO106.out) hb); have n2_ := Aside0.mk (Kd.N_below (by (with_reducible repeat (first | apply Kd.N_alloc | apply Kd.N_drewN | apply Kd.N_drew)); exact HO110.out) hb); have n3_ := Aside0.mk (blk_below (g := gb111) (o := .cells #[.slice Ao52 t101.length co52, .slice Ao54 t104.length co54, .int .i64 t107, .slice Ao55 t108.length co55] 25 (0, 0)) (by (with_reducible repeat (first | refine blk_drewN ?_ _ | refine blk_drew ?_ | refine blk_alloc ?_ _)); exact BK111.out) hb); have n4_ := Aside0.mk (below_step (by repeat (first | (with_reducible first | exact HB.out | apply below_alloc | apply pw_below_drewN | apply below_drew1 | refine below_set ?_ GE111.out) | exact HB.out)) hb); clear HO103; clear HO106; clear HO110; clear BK111; clear HB; have HO103 := n0_; have HO106 := n1_; have HO110 := n2_; have BK111 := n3_; have HB := n4_; clear n0_ n1_ n2_ n3_ n4_; (try clear hb); (try clear hb2); (try clear hk); (try clear hi)))
   go_ret
   exact ⟨by first | rfl | (simp [errW_none, errW_some] <;> rfl) | (simp [*, errW_none, errW_some] <;> rfl), by repeat (first | (with_reducible first | exact HB.out | apply below_alloc | apply pw_below_drewN | apply below_drew1 | refine below_set ?_ GE111.out) | exact HB.out)⟩
 ·replace c3 := Bool.eq_false_iff.mpr c3
  subst c3
  have H1 : (some false) = some r := by rw [if_neg (show ¬ (false = true) by decide)] at H; exact H
  clear H
  have H := H1
  clear H1
  obtain rfl := Option.some.inj H
  go_enter Tryd.func19, Tryd.ntmps19
  go_wp2_with (first | ((with_reducible refine gate_callee (f := 46) rfl ?_); refine goesL_ (some 2) rfl rfl Tryd.func46 (by kernel_rfl) rfl #[] rfl (by (try simp only [List.map_toArray, List.map_cons, List.map_nil]); first | done | rfl | (simp only [List.length_drop, List.length_take]; rfl)) ?_; (with_reducible refine (wickerlaw02_Example.calls  t101 t104 t107 t108 _ A1.out).mono ?_); rintro e w59 ⟨v102, v105, v109, rfl, ho0, ho1, ho2, hb⟩; refine ⟨_, rfl, ?_⟩; have n0_ := Aside0.mk (Kd.R_lower (Kd.R_mono (ok' := fun k_ => some k_ ≠ (v105 : Value).ownBlock) ho0 (fun _ hk_ => hk_.2)) (below_size (by repeat (first | (with_reducible first | exact HB.out | apply below_alloc | apply pw_below_drewN | apply below_drew1) | exact HB.out)))); have n1_ := Aside0.mk (Kd.R_lower (Kd.R_mono (ok' := fun k_ => some k_ ≠ (v102 : Value).ownBlock) ho1 (fun _ hk_ => hk_.2)) (below_size (by repeat (first | (with_reducible first | exact HB.out | apply below_alloc | apply pw_below_drewN | apply below_drew1) | exact HB.out)))); have n2_ := Aside0.mk (Kd.N_lower (Kd.N_mono (ok' := fun k_ => some k_ ≠ (v102 : Value).ownBlock ∧ some k_ ≠ (v105 : Value).ownBlock) ho2 (fun k_ hk_ => ⟨hk_.2.1, hk_.2.2⟩)) (below_size (by repeat (first | (with_reducible first | exact HB.out | apply below_alloc | apply pw_below_drewN | apply below_drew1) | exact HB.out)))); have n3_ := Aside0.mk (below_step (by repeat (first | (with_reducible first | exact HB.out | apply below_alloc | apply pw_below_drewN | apply below_drew1) | exact HB.out)) hb); clear HB; have HO103 := n0_; have HO106 := n1_; have HO110 := n2_; have HB := n3_; clear n0_ n1_ n2_ n3_; (try clear hb); (try clear hb2); (try clear hk); (try clear hi); (try clear ho0); (try clear ho1); (try clear ho2)) | ((with_reducible refine gate_dst (N := 1) rfl ?_); refine box_event ?hg (N := 1) ?hd (cs := #[.slice none 0 0, .slice none 0 0, .int .i64 0, .slice none 0 0]) (t := 25) ?hr ?_; (case hd => rfl); (case hg => rfl); (case hr => first | (go_simp; done) | (go_simp; rfl)); intro gb111 hg w60 hbox hb; have n0_ := Aside0.mk (Kd.R_below (by (with_reducible repeat (first | apply Kd.R_alloc | apply Kd.R_drewN | apply Kd.R_drew)); exact HO103.out) hb); have n1_ := Aside0.mk (Kd.R_below (by (with_reducible repeat (first | apply Kd.R_alloc | apply Kd.R_drewN | apply Kd.R_drew)); exact HO106.out) hb); have n2_ := Aside0.mk (Kd.N_below (Kd.N_elderB (by (with_reducible repeat (first | apply Kd.N_alloc | apply Kd.N_drewN | apply Kd.N_drew)); exact HO110.out) gb111 (Nat.le_of_eq hg.symm)) hb); have n3_ := Aside0.mk (below_step (by repeat (first | (with_reducible first | exact HB.out | apply below_alloc | apply pw_below_drewN | apply below_drew1) | exact HB.out)) hb); have n4_ := Aside0.mk (hbox); have n5_ := Aside0.mk ((by rw [hg]; exact (below_size (by repeat (first | (with_reducible first | exact HB.out | apply below_alloc | apply pw_below_drewN | apply below_drew1) | exact HB.out))) : w.heap.size ≤ gb111)); have n6_ := Aside0.mk ((by rw [hg]; exact (below_size (by repeat (first | (with_reducible first | exact HB.out | apply below_alloc | apply pw_below_drewN | apply below_drew1) | exact HB.out))) : w.heap.size ≤ gb111)); clear HO103; clear HO106; clear HO110; clear HB; have HO103 := n0_; have HO106 := n1_; have HO110 := n2_; have HB := n3_; have BK111 := n4_; have GW111 := n5_; have GE111 := n6_; clear n0_ n1_ n2_ n3_ n4_ n5_ n6_; clear hb hbox hg; obtain ⟨Ao61, co61, eo61⟩ := Kd.R_slice HO103.out; subst eo61; have hcz62_0 : w60.cell? ⟨gb111, 0, none⟩ = some (.slice none 0 0) := (blk_cell BK111.out 0).trans rfl; have hcz62_1 : w60.cell? ⟨gb111, 1, none⟩ = some (.slice none 0 0) := (blk_cell BK111.out 1).trans rfl; have hcz62_2 : w60.cell? ⟨gb111, 2, none⟩ = some (.int .i64 0) := (blk_cell BK111.out 2).trans rfl; have hcz62_3 : w60.cell? ⟨gb111, 3, none⟩ = some (.slice none 0 0) := (blk_cell BK111.out 3).trans rfl; have hfz62_0 := blk_frozen BK111.out 0; have hfz62_1 := blk_frozen BK111.out 1; have hfz62_2 := blk_frozen BK111.out 2; have hfz62_3 := blk_frozen BK111.out 3; obtain ⟨Ao63, co63, eo63⟩ := Kd.R_slice HO106.out; subst eo63; obtain ⟨Ao64, co64, eo64⟩ := Kd.N_slice HO110.out; subst eo64) | ((with_reducible refine gate_callee (f := 47) rfl ?_); refine goesL_ (some 3) rfl rfl Tryd.func47 (by kernel_rfl) rfl #[] rfl (by (try simp only [List.map_toArray, List.map_cons, List.map_nil]); first | done | rfl | (simp only [List.length_drop, List.length_take]; rfl)) ?_; (with_reducible refine (wickerlaw01_Awake.calls k  false _ ?side1 A2.out).mono ?_); (case side1 => exact Laid.below HG.out (by repeat (first | (with_reducible first | exact HB.out | apply below_alloc | apply pw_below_drewN | apply below_drew1 | refine below_set ?_ GE111.out) | exact HB.out))); rintro e w65 ⟨rfl, hb⟩; refine ⟨_, rfl, ?_⟩; have n0_ := Aside0.mk (Kd.R_below (by (with_reducible repeat (first | apply Kd.R_alloc | apply Kd.R_drewN | apply Kd.R_drew)); exact (Kd.R_mono (Kd.R_far (p := ⟨gb111, 3, none⟩) (Kd.R_far (p := ⟨gb111, 2, none⟩) (Kd.R_far (p := ⟨gb111, 1, none⟩) (Kd.R_far (p := ⟨gb111, 0, none⟩) (Kd.R_types HO103.out BK111.out (by decide)) (fun _ hk => hk.2) (.slice Ao61 t101.length co61)) (fun _ hk => hk.2) (.slice Ao63 t104.length co63)) (fun _ hk => hk.2) (.int .i64 t107)) (fun _ hk => hk.2) (.slice Ao64 t108.length co64)) (fun _ h_ => h_.1))) hb); have n1_ := Aside0.mk (Kd.R_below (by (with_reducible repeat (first | apply Kd.R_alloc | apply Kd.R_drewN | apply Kd.R_drew)); exact (Kd.R_mono (Kd.R_far (p := ⟨gb111, 3, none⟩) (Kd.R_far (p := ⟨gb111, 2, none⟩) (Kd.R_far (p := ⟨gb111, 1, none⟩) (Kd.R_far (p := ⟨gb111, 0, none⟩) (Kd.R_types HO106.out BK111.out (by decide)) (fun _ hk => hk.2) (.slice Ao61 t101.length co61)) (fun _ hk => hk.2) (.slice Ao63 t104.length co63)) (fun _ hk => hk.2) (.int .i64 t107)) (fun _ hk => hk.2) (.slice Ao64 t108.length co64)) (fun _ h_ => h_.1))) hb); have n2_ := Aside0.mk (Kd.N_below (by (with_reducible repeat (first | apply Kd.N_alloc | apply Kd.N_drewN | apply Kd.N_drew)); exact (Kd.N_mono (Kd.N_far (p := ⟨gb111, 3, none⟩) (Kd.N_far (p := ⟨gb111, 2, none⟩) (Kd.N_far (p := ⟨gb111, 1, none⟩) (Kd.N_far (p := ⟨gb111, 0, none⟩) (Kd.N_mono HO110.out (fun k_ hk => (⟨hk, hk.2⟩ : _ ∧ k_ ≠ gb111))) (fun _ hk => hk.2) (.slice Ao61 t101.length co61)) (fun _ hk => hk.2) (.slice Ao63 t104.length co63)) (fun _ hk => hk.2) (.int .i64 t107)) (fun _ hk => hk.2) (.slice Ao64 t108.length co64)) (fun _ h_ => h_.1))) hb); have n3_ := Aside0.mk (blk_below (g := gb111) (o := .cells #[.slice Ao61 t101.length co61, .slice Ao63 t104.length co63, .int .i64 t107, .slice Ao64 t108.length co64] 25 (0, 0)) (by (with_reducible repeat (first | refine blk_drewN ?_ _ | refine blk_drew ?_ | refine blk_alloc ?_ _)); refine blk_put (cs := #[.slice Ao61 t101.length co61, .slice Ao63 t104.length co63, .int .i64 t107, .slice none 0 0]) ?_ 3 _ rfl; (with_reducible repeat (first | refine blk_drewN ?_ _ | refine blk_drew ?_ | refine blk_alloc ?_ _)); refine blk_put (cs := #[.slice Ao61 t101.length co61, .slice Ao63 t104.length co63, .int .i64 0, .slice none 0 0]) ?_ 2 _ rfl; (with_reducible repeat (first | refine blk_drewN ?_ _ | refine blk_drew ?_ | refine blk_alloc ?_ _)); refine blk_put (cs := #[.slice Ao61 t101.length co61, .slice none 0 0, .int .i64 0, .slice none 0 0]) ?_ 1 _ rfl; (with_reducible repeat (first | refine blk_drewN ?_ _ | refine blk_drew ?_ | refine blk_alloc ?_ _)); refine blk_put (cs := #[.slice none 0 0, .slice none 0 0, .int .i64 0, .slice none 0 0]) ?_ 0 _ rfl; (with_reducible repeat (first | refine blk_drewN ?_ _ | refine blk_drew ?_ | refine blk_alloc ?_ _)); exact BK111.out) hb); have n4_ := Aside0.mk (below_step (by repeat (first | (with_reducible first | exact HB.out | apply below_alloc | apply pw_below_drewN | apply below_drew1 | refine below_set ?_ GE111.out) | exact HB.out)) hb); clear HO103; clear HO106; clear HO110; clear BK111; clear HB; have HO103 := n0_; have HO106 := n1_; have HO110 := n2_; have BK111 := n3_; have HB := n4_; clear n0_ n1_ n2_ n3_ n4_; (try clear hb); (try clear hb2); (try clear hk); (try clear hi)))
  go_ret
  exact ⟨by first | rfl | (simp [errW_none, errW_some] <;> rfl) | (simp [*, errW_none, errW_some] <;> rfl), by repeat (first | (with_reducible first | exact HB.out | apply below_alloc | apply pw_below_drewN | apply below_drew1 | refine below_set ?_ GE111.out) | exact HB.out)⟩
end Go.Proofs.YtgdcnmpcfoomiaaDoor.G
end
section
set_option linter.unusedVariables false
set_option linter.unusedSimpArgs false
namespace Go.Proofs.YtgdcnmpcfoomiaaDoor.G
open Go Go.RowKit Go.Proofs.YtgdcnmpcfoomiaaDoorW.PrintWords Go.Proofs.YtgdcnmpcfoomiaaDoor.Pure
structure GIn (l0 l1 : List ByteArray) (a2 : Int) (l3 : List GRule) : Prop where
  n0 : l0.length ≤ 140737488355328
  n1 : l1.length ≤ 140737488355328
  n3 : l3.length ≤ 140737488355328
  s0 : ∀ s ∈ l0, s.size ≤ 140737488355328
  s1 : ∀ s ∈ l1, s.size ≤ 140737488355328
  i2 : symOk a2 = true
  r3 : ∀ r ∈ l3, symOk r.f0 = true ∧ r.f1.length ≤ 140737488355328 ∧ ∀ s ∈ r.f1, symOk s = true
def sizeR (l : List GRule) : Nat := (l.map fun r => 1 + r.f1.length).sum
def sixt (l : List ByteArray) : Nat := (l.map fun s => s.size / 16).sum
def smallB (l0 l1 : List ByteArray) (l3 : List GRule) : Bool := decide (sizeR l3 + sixt l0 + sixt l1 ≤ 600 ∧ l0.length ≤ 60 ∧ l1.length ≤ 60 ∧ l3.length ≤ 120)
theorem le_sum_of_mem {α : Type} (f : α → Nat) : ∀ {l : List α} {x : α}, x ∈ l → f x ≤ (l.map f).sum := by
  intro l
  induction l with
  | nil => intro x h; exact absurd h (by simp)
  | cons a l ih =>
    intro x h
    rw [List.map_cons, List.sum_cons]
    rcases List.mem_cons.1 h with rfl | h
    · omega
    · have := ih h; omega
theorem sum_le_of {α : Type} (f : α → Nat) (m : Nat) : ∀ {l : List α}, (∀ x ∈ l, f x ≤ m) → (l.map f).sum ≤ l.length * m := by
  intro l
  induction l with
  | nil => intro _; simp
  | cons a l ih =>
    intro h
    have h1 := h a (by simp)
    have h2 := ih (fun x hx => h x (List.mem_cons_of_mem _ hx))
    rw [List.map_cons, List.sum_cons, List.length_cons, Nat.add_mul]; omega
theorem small_ok {l0 l1 : List ByteArray} {a2 : Int} {l3 : List GRule} (h : GIn l0 l1 a2 l3) (hs : smallB l0 l1 l3 = true) :
    gramOk l0 l1 a2 l3 = true ∧ l0.length ≤ 60 ∧ l1.length ≤ 60 ∧ l3.length ≤ 120 ∧ sizeR l3 ≤ 600 ∧ (∀ s ∈ l0, s.size ≤ 10000) ∧ (∀ s ∈ l1, s.size ≤ 10000) ∧ ∀ r ∈ l3, r.f1.length ≤ 600 := by
  have hs := of_decide_eq_true hs
  have k0 : ∀ s ∈ l0, s.size ≤ 10000 := fun s hm => by
    have := le_sum_of_mem (fun s : ByteArray => s.size / 16) hm
    have e : s.size / 16 ≤ _ := this; unfold sixt at hs; omega
  have k1 : ∀ s ∈ l1, s.size ≤ 10000 := fun s hm => by
    have := le_sum_of_mem (fun s : ByteArray => s.size / 16) hm
    have e : s.size / 16 ≤ _ := this; unfold sixt at hs; omega
  have k3 : ∀ r ∈ l3, r.f1.length ≤ 600 := fun r hm => by
    have := le_sum_of_mem (fun r : GRule => 1 + r.f1.length) hm
    have e : 1 + r.f1.length ≤ _ := this; unfold sizeR at hs; omega
  refine ⟨?_, hs.2.1, hs.2.2.1, hs.2.2.2, by omega, k0, k1, k3⟩
  simp only [gramOk, Bool.and_eq_true, decide_eq_true_eq, List.all_eq_true]
  refine ⟨⟨⟨⟨⟨⟨by omega, by omega⟩, by omega⟩, fun s hm => by have := k0 s hm; omega⟩, fun s hm => by have := k1 s hm; omega⟩, h.i2⟩, fun r hm => ?_⟩
  simp only [ruleOk, Bool.and_eq_true, decide_eq_true_eq, List.all_eq_true]
  exact ⟨⟨(h.r3 r hm).1, by have := k3 r hm; omega⟩, (h.r3 r hm).2.2⟩
theorem rdG (l : List GRule) (i : Nat) (h : i < l.length) : rd_T35 l (i : Int) = l[i] := by
  rw [rd_T35, Int.toNat_natCast, List.getD_eq_getElem?_getD, List.getElem?_eq_getElem h]; rfl
theorem rdBy (l : List ByteArray) (i : Nat) (h : i < l.length) : rdOf ByteArray.empty l (i : Int) = l[i] := by
  rw [rdOf, Int.toNat_natCast, List.getD_eq_getElem?_getD, List.getElem?_eq_getElem h]; rfl
theorem wsucc {i : Nat} (h : i ≤ 1000000000000000) : wrap64 ((i : Int) + 1) = ((i + 1 : Nat) : Int) := by rw [w64 (by omega) (by omega)]; rfl
section
variable (l0 l1 : List ByteArray) (a2 : Int) (l3 : List GRule) (h : GIn l0 l1 a2 l3)
def finS (y : Int) : Bool := decide (y ≤ 600 ∧ l0.length ≤ 60 ∧ l1.length ≤ 60 ∧ l3.length ≤ 120)
include h
theorem small_l2 : ∀ (d i : Nat), i + d = l1.length → ∀ x : Int, ∃ y : Int, (0 ≤ x → x + (sixt (l1.drop i) : Int) ≤ 9223372036854775807 → y = x + (sixt (l1.drop i) : Int)) ∧ Ev (fun k => wickerlaw02_Small.l2 k x l1 (l1.length : Int) (i : Int) l0 l1 a2 l3) (finS l0 l1 l3 y) := by
  have hn := h.n1
  intro d
  induction d with
  | zero =>
    intro i hi x
    refine ⟨x, fun _ _ => by rw [List.drop_eq_nil_of_le (by omega)]; simp [sixt], ev_nowS fun k => ?_⟩
    rw [wickerlaw02_Small.l2, if_neg (by omega)]
    unfold finS
    by_cases c1 : x ≤ 600
    · rw [if_pos c1]
      by_cases c2 : l0.length ≤ 60
      · rw [if_pos (by omega)]
        by_cases c3 : l1.length ≤ 60
        · rw [if_pos (by omega)]
          by_cases c4 : l3.length ≤ 120
          · rw [decide_eq_true (by omega), decide_eq_true ⟨c1, c2, c3, c4⟩]
          · rw [decide_eq_false (by omega), decide_eq_false (fun hh => c4 hh.2.2.2)]
        · rw [if_neg (by omega), decide_eq_false (fun hh => c3 hh.2.2.1)]
      · rw [if_neg (by omega), decide_eq_false (fun hh => c2 hh.2.1)]
    · rw [if_neg c1, decide_eq_false (fun hh => c1 hh.1)]
  | succ d ih =>
    intro i hi x
    have hi1 : i < l1.length := by omega
    have hs := h.s1 _ (List.getElem_mem hi1)
    obtain ⟨y, hy, hev⟩ := ih (i + 1) (by omega) (wrap64 (x + ((l1[i].size / 16 : Nat) : Int)))
    refine ⟨y, fun hx hb => ?_, Ev.step (fun k => ?_) hev⟩
    · have e : sixt (l1.drop i) = l1[i].size / 16 + sixt (l1.drop (i + 1)) := by rw [List.drop_eq_getElem_cons hi1]; simp only [sixt, List.map_cons, List.sum_cons]
      rw [e] at hb ⊢
      rw [w64 (by omega) (by omega)] at hy
      rw [hy (by omega) (by omega)]; omega
    · rw [wickerlaw02_Small.l2, if_pos (by omega), if_pos (by omega), if_pos (by omega), rdBy l1 i hi1, w64 (i := ((l1[i].size : Int) / 16)) (by omega) (by omega), wsucc (by omega), show ((l1[i].size : Int) / 16) = ((l1[i].size / 16 : Nat) : Int) by omega]
theorem small_l1 : ∀ (d i : Nat), i + d = l0.length → ∀ x : Int, ∃ y : Int, (0 ≤ x → x + (sixt (l0.drop i) : Int) + (sixt l1 : Int) ≤ 9223372036854775807 → y = x + (sixt (l0.drop i) : Int) + (sixt l1 : Int)) ∧ Ev (fun k => wickerlaw02_Small.l1 k x l0 (l0.length : Int) (i : Int) l0 l1 a2 l3) (finS l0 l1 l3 y) := by
  have hn := h.n0
  intro d
  induction d with
  | zero =>
    intro i hi x
    obtain ⟨y, hy, hev⟩ := small_l2 l0 l1 a2 l3 h l1.length 0 (by omega) x
    rw [List.drop_zero] at hy
    refine ⟨y, fun h1 h2 => ?_, Ev.step (fun k => ?_) hev⟩
    · rw [List.drop_eq_nil_of_le (by omega)] at h2 ⊢
      simp only [sixt, List.map_nil, List.sum_nil] at h2 ⊢
      rw [hy h1 (by unfold sixt; omega)]; unfold sixt; omega
    · rw [wickerlaw02_Small.l1, if_neg (by omega)]; rfl
  | succ d ih =>
    intro i hi x
    have hi1 : i < l0.length := by omega
    have hs := h.s0 _ (List.getElem_mem hi1)
    obtain ⟨y, hy, hev⟩ := ih (i + 1) (by omega) (wrap64 (x + ((l0[i].size / 16 : Nat) : Int)))
    refine ⟨y, fun hx hb => ?_, Ev.step (fun k => ?_) hev⟩
    · have e : sixt (l0.drop i) = l0[i].size / 16 + sixt (l0.drop (i + 1)) := by rw [List.drop_eq_getElem_cons hi1]; simp only [sixt, List.map_cons, List.sum_cons]
      rw [e] at hb ⊢
      rw [w64 (by omega) (by omega)] at hy
      rw [hy (by omega) (by omega)]; omega
    · rw [wickerlaw02_Small.l1, if_pos (by omega), if_pos (by omega), if_pos (by omega), rdBy l0 i hi1, w64 (i := ((l0[i].size : Int) / 16)) (by omega) (by omega), wsucc (by omega), show ((l0[i].size : Int) / 16) = ((l0[i].size / 16 : Nat) : Int) by omega]
theorem small_l0 : ∀ (d i : Nat), i + d = l3.length → ∀ x : Int, ∃ y : Int, (0 ≤ x → x + (sizeR (l3.drop i) : Int) + (sixt l0 : Int) + (sixt l1 : Int) ≤ 9223372036854775807 → y = x + (sizeR (l3.drop i) : Int) + (sixt l0 : Int) + (sixt l1 : Int)) ∧ Ev (fun k => wickerlaw02_Small.l0 k x l3 (l3.length : Int) (i : Int) l0 l1 a2 l3) (finS l0 l1 l3 y) := by
  have hn := h.n3
  intro d
  induction d with
  | zero =>
    intro i hi x
    obtain ⟨y, hy, hev⟩ := small_l1 l0 l1 a2 l3 h l0.length 0 (by omega) x
    rw [List.drop_zero] at hy
    refine ⟨y, fun h1 h2 => ?_, Ev.step (fun k => ?_) hev⟩
    · rw [List.drop_eq_nil_of_le (by omega)] at h2 ⊢
      simp only [sizeR, List.map_nil, List.sum_nil] at h2 ⊢
      rw [hy h1 (by omega)]; omega
    · rw [wickerlaw02_Small.l0, if_neg (by omega)]; rfl
  | succ d ih =>
    intro i hi x
    have hi1 : i < l3.length := by omega
    have hs := (h.r3 _ (List.getElem_mem hi1)).2.1
    obtain ⟨y, hy, hev⟩ := ih (i + 1) (by omega) (wrap64 (x + ((1 + l3[i].f1.length : Nat) : Int)))
    refine ⟨y, fun hx hb => ?_, Ev.step (fun k => ?_) hev⟩
    · have e : sizeR (l3.drop i) = (1 + l3[i].f1.length) + sizeR (l3.drop (i + 1)) := by rw [List.drop_eq_getElem_cons hi1]; simp only [sizeR, List.map_cons, List.sum_cons]
      rw [e] at hb ⊢
      rw [w64 (by omega) (by omega)] at hy
      rw [hy (by omega) (by omega)]; omega
    · rw [wickerlaw02_Small.l0, if_pos (by omega), if_pos (by omega), if_pos (by omega), rdG l3 i hi1, w64 (i := 1 + (l3[i].f1.length : Int)) (by omega) (by omega), wsucc (by omega), show 1 + (l3[i].f1.length : Int) = ((1 + l3[i].f1.length : Nat) : Int) by omega]
theorem small_f : Ev (fun k => wickerlaw02_Small.f k l0 l1 a2 l3) (smallB l0 l1 l3) := by
  obtain ⟨y, hy, hev⟩ := small_l0 l0 l1 a2 l3 h l3.length 0 (by omega) 0
  rw [List.drop_zero] at hy
  refine Ev.eq (show Ev (fun k => wickerlaw02_Small.f k l0 l1 a2 l3) _ from hev) ?_
  unfold finS smallB
  by_cases hb : l0.length ≤ 60 ∧ l1.length ≤ 60 ∧ l3.length ≤ 120
  · have b3 := sum_le_of (fun r : GRule => 1 + r.f1.length) 140737488355329 (l := l3) (fun r hr => by have := (h.r3 r hr).2.1; omega)
    have b0 := sum_le_of (fun s : ByteArray => s.size / 16) 140737488355328 (l := l0) (fun s hs => by have := h.s0 s hs; omega)
    have b1 := sum_le_of (fun s : ByteArray => s.size / 16) 140737488355328 (l := l1) (fun s hs => by have := h.s1 s hs; omega)
    have e := hy (by omega) (by unfold sizeR sixt; omega)
    rw [e]
    congr 1
    apply propext
    constructor
    · intro hh; omega
    · intro hh; omega
  · rw [decide_eq_false (fun hh => hb hh.2), decide_eq_false (fun hh => hb hh.2)]
end
end Go.Proofs.YtgdcnmpcfoomiaaDoor.G
end
section
set_option linter.unusedVariables false
set_option linter.unusedSimpArgs false
namespace Go.Proofs.YtgdcnmpcfoomiaaDoorOpen
open Go Go.RowKit Go.ChangeShapes Go.Deep Go.Proofs.YtgdcnmpcfoomiaaDoorW.PrintWords
def OpensS {α : Type} (P : Program) (W : World) (t : TypeId) (d : Kd α) (G : α → Prop) : Prop :=
  ∀ (H : Type) (enc : TypeId × Value → H) (base : Nat) (sp : Nat → Bool) (held : Bool) (fuel : Nat) (cs : List Value) (x : DataW H × List MemPlace), DataW.trod enc P W base sp held fuel t cs = some x →
    (∀ n ∈ x.1.weights P t, n ≤ reachBytes) → ∃ y, d.K W y cs ∧ G y
section
variable {P : Program} {W : World} {t : TypeId}
theorem opensS_string (ht : P.underlying t = some .string) : OpensS P W t Kd.string (fun s => s.size ≤ reachBytes) := by
  intro H enc base sp held fuel cs x h hw
  obtain ⟨s, rfl, rfl, hs⟩ := DataW.trod_string ht h
  exact ⟨s, rfl, by have := hw s.data.toList.length (by simp [DataW.weights]); rwa [Array.length_toList] at this⟩
theorem opensS_int {k : IntKind} (ht : P.underlying t = some (.int k)) : OpensS P W t (Kd.int k) (fun n => (Lit.int k n).wf = true) := by
  intro H enc base sp held fuel cs x h hw
  obtain ⟨n, rfl, _, hn⟩ := DataW.trod_int ht h
  exact ⟨n, rfl, hn⟩
theorem mem_weightsAll {H : Type} {e : TypeId} {d : DataW H} : ∀ {l : List (DataW H)}, d ∈ l → ∀ n ∈ d.weights P e, n ∈ DataW.weightsAll P e l
  | [], h, _, _ => (List.not_mem_nil h).elim
  | x :: r, h, n, hn => by
    simp only [DataW.weightsAll, List.mem_append]
    rcases List.mem_cons.1 h with rfl | h
    · exact .inl hn
    · exact .inr (mem_weightsAll h n hn)
theorem opensS_slice {α : Type} [Inhabited α] {e : TypeId} {d : Kd α} {G : α → Prop} (ht : P.underlying t = some (.slice e)) (hc : P.cellsOf e = d.sz) (he : OpensS P W e d G) :
    OpensS P W t (Kd.slice e d) (fun l => (∀ y ∈ l, G y) ∧ l.length * P.bytesOf e ≤ reachBytes ∧ l.length ≤ maxLen) := by
  intro H enc base sp held fuel cs x h hw
  rcases Deep.open_slice ht h with ⟨rfl, _⟩ | ⟨a, len, cap, m, n, D, Pl, rfl, hb, hl, hm, hmm, rfl, hx⟩
  · exact ⟨[], ⟨none, 0, rfl, Nat.le_refl _, Kd.C_nil d W⟩, ⟨fun y hy => (List.not_mem_nil hy).elim, by simp, Nat.zero_le _⟩⟩
  have hlm : len ≤ m := by rw [hmm]; split <;> omega
  simp only [DataW.weights, ht] at hw
  have hsz : len * P.bytesOf e ≤ reachBytes := by
    have h1 := hw _ List.mem_cons_self
    rw [List.length_map, List.length_map, List.length_range, List.length_range] at h1
    exact Nat.le_trans (Nat.mul_le_mul_right _ (by omega)) h1
  obtain ⟨Y, hY⟩ := Deep.choose_lt (α := α) (n := len) (p := fun i y => (∃ c, c.length = d.sz ∧ d.K W y c ∧ ∀ j u, c[j]? = some u → W.cell? (a.add (i * d.sz + j)) = some u) ∧ G y) (fun i hi => by
    obtain ⟨cs', h1, h2⟩ := hx i (by omega)
    rw [hc] at h1
    obtain ⟨_, hlen, hcell⟩ := World.cells?_some h1
    obtain ⟨y, hy, hg⟩ := he H enc base sp held n cs' _ h2 (fun k hk => hw k (List.mem_cons_of_mem _ (List.mem_append_left _ (mem_weightsAll (d := D i) (List.mem_map.2 ⟨i, List.mem_range.2 hi, rfl⟩) k hk))))
    refine ⟨y, ⟨cs', hlen, hy, fun j u hj => ?_⟩, hg⟩
    have hjl : j < d.sz := by rw [← hlen]; exact (List.getElem?_eq_some_iff.1 hj).1
    have := hcell j hjl
    rw [Deep.add_add] at this
    rw [this]; exact hj)
  have hl2 : ((List.range len).map Y).length = len := by simp
  refine ⟨(List.range len).map Y, ⟨some a, cap, by rw [hl2], by rw [hl2]; exact hl, ⟨rfl, ?_, fun _ => ⟨a, rfl, fun j p hj => ?_⟩⟩⟩, ⟨fun y hy => ?_, by rw [hl2]; exact hsz, ?_⟩⟩
  · rw [hl2]; unfold maxLen at hm; omega
  · have hjl : j < len := by have := (List.getElem?_eq_some_iff.1 hj).1; simpa using this
    rw [List.getElem?_map, List.getElem?_range hjl] at hj
    obtain rfl := Option.some.inj hj
    exact (hY j hjl).1
  · obtain ⟨i, hi, rfl⟩ := List.mem_map.1 hy
    exact (hY i (List.mem_range.1 hi)).2
  · rw [hl2]; omega
theorem opensS_mono {α : Type} {d : Kd α} {G G' : α → Prop} (h : OpensS P W t d G) (hg : ∀ y, G y → G' y) : OpensS P W t d G' := by
  intro H enc base sp held fuel cs x hx hw
  obtain ⟨y, hy, hG⟩ := h H enc base sp held fuel cs x hx hw
  exact ⟨y, hy, hg y hG⟩
theorem opensS_two {α β γ : Type} {f0 f1 : Field} {a : Kd α} {b : Kd β} {Ga : α → Prop} {Gb : β → Prop} (ht : P.underlying t = some (.struct #[f0, f1])) (hone : oneCellFields P #[f0, f1] = true) (hC : P.cellsOf t = 2)
    (ha : OpensS P W f0.type a Ga) (hb : OpensS P W f1.type b Gb) (f : γ → α × β) (g : α → β → γ) (hfg : ∀ x y, f (g x y) = (x, y)) : OpensS P W t (Kd.iso (Kd.pair a b) f) (fun z => Ga (f z).1 ∧ Gb (f z).2) := by
  intro H enc base sp held fuel cs x h hw
  obtain ⟨y0, y1, n, rfl, hl, h0, h1⟩ := trod_struct2 ht h
  obtain ⟨o0, k0⟩ := Deep.hone_of hone 0 f0 rfl
  obtain ⟨o1, k1⟩ := Deep.hone_of hone 1 f1 rfl
  rw [hC] at hl
  obtain ⟨c0, c1, rfl⟩ : ∃ c0 c1, cs = [c0, c1] := by
    match cs, hl with
    | [c0, c1], _ => exact ⟨c0, c1, rfl⟩
  simp only [DataW.weights, ht, List.map_cons, List.map_nil, DataW.weightsEach, List.append_nil, List.mem_append] at hw
  obtain ⟨x0, hx0, g0⟩ := ha H enc base sp held n [c0] y0 (by simpa [o0, k0] using h0) (fun k hk => hw k (.inl hk))
  obtain ⟨x1, hx1, g1⟩ := hb H enc base sp held n [c1] y1 (by simpa [o1, k1] using h1) (fun k hk => hw k (.inr hk))
  refine ⟨g x0 x1, ?_, ?_⟩
  · show (Kd.pair a b).K W (f (g x0 x1)) [c0, c1]
    rw [hfg]
    exact ⟨[c0], [c1], rfl, hx0, hx1⟩
  · show Ga (f (g x0 x1)).1 ∧ Gb (f (g x0 x1)).2
    rw [hfg]; exact ⟨g0, g1⟩
theorem weigh {H : Type} {ts : List TypeId} {ds : List (DataW H)} (h : (DataW.weightsEach P ts ds).all (· ≤ reachBytes) = true) {j : Nat} {d : DataW H} (ht : ts[j]? = some t) (hd : ds[j]? = some d) : ∀ n ∈ d.weights P t, n ≤ reachBytes := fun n hn =>
  of_decide_eq_true (List.all_eq_true.1 h n (DataW.weights_mem_each ht hd n hn))
end
end Go.Proofs.YtgdcnmpcfoomiaaDoorOpen
end
section
set_option linter.unusedVariables false
set_option linter.unusedSimpArgs false
namespace Go.Proofs.YtgdcnmpcfoomiaaDoor.G
open Go Go.RowKit Go.ChangeShapes Go.WideShapes Go.Deep Go.Proofs.YtgdcnmpcfoomiaaDoorOpen Go.Proofs.YtgdcnmpcfoomiaaDoorW.PrintWords
instance : Inhabited GRule := ⟨⟨0, []⟩⟩
theorem wf_sym (n : Int) (h : (Lit.int .i64 n).wf = true) : symOk n = true := by
  have e1 : IntKind.i64.min = -9223372036854775808 := by decide
  have e2 : IntKind.i64.max = 9223372036854775807 := by decide
  simp only [Lit.wf, Bool.and_eq_true, decide_eq_true_eq, e1, e2] at h
  unfold symOk
  rw [decide_eq_true_eq]
  omega
theorem opens_rule (W : World) : OpensS Tryd.prog W 35 k35 (fun r => symOk r.f0 = true ∧ r.f1.length ≤ 140737488355328 ∧ ∀ s ∈ r.f1, symOk s = true) := by
  have hi := wf_sym
  have h1 : OpensS Tryd.prog W 33 (Kd.slice 55 (Kd.int .i64)) (fun l => (∀ y ∈ l, (Lit.int .i64 y).wf = true) ∧ l.length * Tryd.prog.bytesOf 55 ≤ reachBytes ∧ l.length ≤ maxLen) :=
    opensS_slice Tryd.underlying33 (by kernel_rfl) (opensS_int Tryd.underlying55)
  have hb : Tryd.prog.bytesOf 55 = 8 := by kernel_rfl
  refine opensS_mono (opensS_two (f := fun x : GRule => (x.f0, x.f1)) (g := fun a b => ⟨a, b⟩) Tryd.underlying35 (by kernel_rfl) (by kernel_rfl) (opensS_int Tryd.underlying3) h1 (fun _ _ => rfl)) ?_
  rintro r ⟨g0, g1, g2, _⟩
  rw [hb] at g2
  unfold reachBytes at g2
  have g2' : r.f1.length * 8 ≤ 0x7ffffffff000 := g2
  exact ⟨hi _ g0, by omega, fun s hs => hi _ (g1 s hs)⟩
set_option maxRecDepth 100000 in
theorem open_gram {H : Type} {enc : TypeId × Value → H} {W : World} {base b0 : Nat} {sp : Nat → Bool} {held : Bool} {r : Reach} {v : Value} {D : DataW H} {p : List MemPlace} (hv : Value.okWide Tryd.prog W r b0 25 v) (h : DataW.Trod enc Tryd.prog W base sp held 25 v D p)
    (hw : ∀ n ∈ D.weights Tryd.prog 25, n ≤ reachBytes) :
    ∃ (A0 : Option Addr) (c0 : Nat) (l0 : List ByteArray) (A1 : Option Addr) (c1 : Nat) (l1 : List ByteArray) (a2 : Int) (A3 : Option Addr) (c3 : Nat) (l3 : List GRule), v = .agg #[.slice A0 l0.length c0, .slice A1 l1.length c1, .int .i64 a2, .slice A3 l3.length c3] ∧
      (Kd.C Kd.string W A0 l0.length l0 ∧ l0.length ≤ c0) ∧ (Kd.C Kd.string W A1 l1.length l1 ∧ l1.length ≤ c1) ∧ (Kd.C k35 W A3 l3.length l3 ∧ l3.length ≤ c3) ∧ GIn l0 l1 a2 l3 := by
  obtain ⟨v0, v1, v2, v3, y0, y1, y2, y3, n, rfl, rfl, rfl, h0, h1, h2, h3⟩ := Joins.open_agg4 Tryd.underlying25 (by kernel_rfl) (by kernel_rfl) hv h
  simp only [DataW.weights, Tryd.underlying25, List.map_cons, List.map_nil, DataW.weightsEach, List.append_nil, List.mem_append] at hw
  have hi := wf_sym
  have hs : OpensS Tryd.prog W 22 (Kd.slice 9 Kd.string) (fun l => (∀ y ∈ l, y.size ≤ reachBytes) ∧ l.length * Tryd.prog.bytesOf 9 ≤ reachBytes ∧ l.length ≤ maxLen) :=
    opensS_slice Tryd.underlying22 (by kernel_rfl) (opensS_string Tryd.underlying9)
  have hr : OpensS Tryd.prog W 23 (Kd.slice 35 k35) (fun l => (∀ r ∈ l, symOk r.f0 = true ∧ r.f1.length ≤ 140737488355328 ∧ ∀ s ∈ r.f1, symOk s = true) ∧ l.length * Tryd.prog.bytesOf 35 ≤ reachBytes ∧ l.length ≤ maxLen) :=
    opensS_slice Tryd.underlying23 (by kernel_rfl) (opens_rule W)
  have hb0 : Tryd.prog.bytesOf 9 = 16 := by kernel_rfl
  have hb3 : Tryd.prog.bytesOf 35 = 32 := by kernel_rfl
  obtain ⟨l0, ⟨A0, c0, e0, hc0, hC0⟩, g0, g0', _⟩ := hs H enc base sp held n [v0] y0 h0 (fun k hk => hw k (.inl hk))
  obtain ⟨l1, ⟨A1, c1, e1, hc1, hC1⟩, g1, g1', _⟩ := hs H enc base sp held n [v1] y1 h1 (fun k hk => hw k (.inr (.inl hk)))
  obtain ⟨a2, e2, g2⟩ := opensS_int Tryd.underlying3 H enc base sp held n [v2] y2 h2 (fun k hk => hw k (.inr (.inr (.inl hk))))
  obtain ⟨l3, ⟨A3, c3, e3, hc3, hC3⟩, g3, g3', _⟩ := hr H enc base sp held n [v3] y3 h3 (fun k hk => hw k (.inr (.inr (.inr hk))))
  injection e0 with e0; injection e1 with e1; injection e2 with e2; injection e3 with e3
  subst e0; subst e1; subst e2; subst e3
  rw [hb0] at g0' g1'
  rw [hb3] at g3'
  unfold reachBytes at g0 g1 g0' g1' g3'
  exact ⟨A0, c0, l0, A1, c1, l1, a2, A3, c3, l3, rfl, ⟨hC0, hc0⟩, ⟨hC1, hc1⟩, ⟨hC3, hc3⟩, ⟨by omega, by omega, by omega, fun s hm => by have := g0 s hm; omega, fun s hm => by have := g1 s hm; omega, hi _ g2, g3⟩⟩
end Go.Proofs.YtgdcnmpcfoomiaaDoor.G
end
section
namespace Go.Proofs.YtgdcnmpcfoomiaaDoor.G
open Go.RowKit Go.Proofs.YtgdcnmpcfoomiaaDoorW.PrintWords Go.Proofs.YtgdcnmpcfoomiaaDoorW.PrintLast Go.Proofs.YtgdcnmpcfoomiaaDoorW.PrintMore
attribute [local go_sem] max2_int min2_int max_two min_two max_three min_three max_four min_four
attribute [local go_sem] Go.Proofs.YtgdcnmpcfoomiaaDoorOwn.isSome_setCell
set_option linter.unusedVariables false
set_option linter.unusedSimpArgs false
def shape_Short_1.f (l0 : List Int) : Option (Bool) := some (decide ((l0.length : Int) ≤ 2))
set_option maxHeartbeats 8000000 in
set_option maxRecDepth 100000 in
theorem shape_Short_1.calls (A0 : Option Addr) (c0 : Nat) (l0 : List Int) (r : Bool) (w : World) (hr0 : Kd.C (Kd.int .i64) w A0 l0.length l0) (hc0 : l0.length ≤ c0) (h : shape_Short_1.f l0 = some r) :
  Calls Tryd.prog 41 #[.slice A0 l0.length c0] w fun e w' => e = .returned (.bool r) ∧ Drawn0 w w' := by
 have HR0 := Aside0.mk hr0
 have HC0 := Aside0.mk hc0
 clear hr0 hc0
 have H : (some (decide ((l0.length : Int) ≤ 2))) = some r := h
 clear h
 obtain rfl := Option.some.inj H
 go_enter Tryd.func41, Tryd.ntmps41
 go_wp2
 go_ret
 exact ⟨by first | rfl | (simp; done) | (simp [*]; done) | (exfalso; simp only [beq_iff_eq] at *; omega), by repeat (first | exact Drawn0.refl _ | apply Drawn0.step)⟩
def shape_nonterminals.l0 : Nat → List Int → Int → Int → Option (Bool)
 | 0, _, _, _ => none
 | k + 1, x5, x6, x7 => if x7 < x6 then (if 0 ≤ x7 then (if x7 < (x5.length : Int) then ((gram_Sym_IsTerm.f (rd x5 x7)).bind fun t102 => (if t102 = true then (some false) else (shape_nonterminals.l0 k x5 x6 (wrap64 (x7 + 1))))) else (none)) else (none)) else (some true)
def shape_nonterminals.f (k : Nat) (l0 : List Int) : Option (Bool) := shape_nonterminals.l0 k l0 (l0.length : Int) 0
set_option maxHeartbeats 8000000 in
set_option maxRecDepth 100000 in
theorem shape_nonterminals.calls (k : Nat) (A0 : Option Addr) (c0 : Nat) (l0 : List Int) (r : Bool) (w : World) (hr0 : Kd.C (Kd.int .i64) w A0 l0.length l0) (hc0 : l0.length ≤ c0) (h : shape_nonterminals.f k l0 = some r) :
  Calls Tryd.prog 43 #[.slice A0 l0.length c0] w fun e w' => e = .returned (.bool r) ∧ Drawn0 w w' := by
 have HR0 := Aside0.mk hr0
 have HC0 := Aside0.mk hc0
 clear hr0 hc0
 have H : (shape_nonterminals.l0 k l0 (l0.length : Int) 0) = some r := h
 clear h
 have H' := Aside0.mk H
 clear H
 go_enter Tryd.func43, Tryd.ntmps43
 go_wp2
 go_loopg [7] k (fun kq v7 w' => ∃ (x7_1 : Int), v7 = .int .i64 x7_1 ∧ Aside0 (shape_nonterminals.l0 kq l0 (l0.length : Int) x7_1 = some r) ∧ Aside0 (kq ≤ k) ∧ Drawn0 w w')
 case atStart => exact ⟨(0), (by first | rfl | (simp; done) | (simp [*]; done)), H', ⟨Nat.le_refl _⟩, by repeat (first | exact Drawn0.refl _ | apply Drawn0.step)⟩
 case round =>
  clear H'
  obtain ⟨x7_1, rfl, HA, HK1, ⟨m1, rfl⟩⟩ := hrel
  cases gk with
  | zero => exact absurd HA.out (by simp [shape_nonterminals.l0])
  | succ k1 =>
   have H := HA.out
   clear HA
   simp only [shape_nonterminals.l0] at H
   by_cases c2 : x7_1 < (l0.length : Int)
   ·rw [if_pos c2] at H
    have c2b0 : decide (x7_1 < (l0.length : Int)) = true := decide_eq_true c2
    clear c2
    by_cases c3 : 0 ≤ x7_1
    ·rw [if_pos c3] at H
     have c3b0 : decide (0 ≤ x7_1) = true := decide_eq_true c3
     clear c3
     by_cases c4 : x7_1 < (l0.length : Int)
     ·rw [if_pos c4] at H
      have c4b0 : decide (x7_1 < (l0.length : Int)) = true := decide_eq_true c4
      clear c4
      replace H := Option.bind_eq_some_iff.mp H
      obtain ⟨t102, A50, H⟩ := H
      replace H : (if t102 = true then (some false) else (shape_nonterminals.l0 k1 l0 (l0.length : Int) (wrap64 (x7_1 + 1)))) = some r := H
      have A5 := Aside0.mk A50
      clear A50
      by_cases c6 : t102 = true
      ·subst c6
       have H1 : (some false) = some r := by rw [if_pos rfl] at H; exact H
       clear H
       have H := H1
       clear H1
       obtain rfl := Option.some.inj H
       have p101 : 0 ≤ (x7_1 : Int) := of_decide_eq_true (by first | (with_reducible assumption) | assumption)
       have q101 : x7_1 < (l0.length : Int) := of_decide_eq_true (by first | (with_reducible assumption) | assumption)
       obtain ⟨ad101, e101, hx101_0⟩ := Kd.at_int HR0.out x7_1 p101 q101
       cases e101
       replace p101 := eq_true p101
       replace q101 := eq_true q101
       go_wp2_with (first | ((with_reducible refine gate_callee (f := 33) rfl ?_); refine goesL_ (some 12) rfl rfl Tryd.func33 (by kernel_rfl) rfl #[.int .i64 (rd l0 x7_1)] rfl (by (try simp only [List.map_toArray, List.map_cons, List.map_nil]); first | done | rfl | (simp only [List.length_drop, List.length_take]; rfl)) ?_; (with_reducible refine (gram_Sym_IsTerm.calls (rd l0 x7_1) true _ A5.out).mono ?_); rintro e w' ⟨rfl, ⟨nd, rfl⟩⟩; refine ⟨_, rfl, ?_⟩))
       go_ret
       exact ⟨by first | rfl | (simp; done) | (simp [*]; done) | (exfalso; simp only [beq_iff_eq] at *; omega), by repeat (first | exact Drawn0.refl _ | apply Drawn0.step)⟩
      ·replace c6 := Bool.eq_false_iff.mpr c6
       subst c6
       have H1 : (shape_nonterminals.l0 k1 l0 (l0.length : Int) (wrap64 (x7_1 + 1))) = some r := by rw [if_neg (show ¬ (false = true) by decide)] at H; exact H
       clear H
       have H := H1
       clear H1
       have H' := Aside0.mk H
       clear H
       have p101 : 0 ≤ (x7_1 : Int) := of_decide_eq_true (by first | (with_reducible assumption) | assumption)
       have q101 : x7_1 < (l0.length : Int) := of_decide_eq_true (by first | (with_reducible assumption) | assumption)
       obtain ⟨ad101, e101, hx101_0⟩ := Kd.at_int HR0.out x7_1 p101 q101
       cases e101
       replace p101 := eq_true p101
       replace q101 := eq_true q101
       go_wp2_with (first | ((with_reducible refine gate_callee (f := 33) rfl ?_); refine goesL_ (some 12) rfl rfl Tryd.func33 (by kernel_rfl) rfl #[.int .i64 (rd l0 x7_1)] rfl (by (try simp only [List.map_toArray, List.map_cons, List.map_nil]); first | done | rfl | (simp only [List.length_drop, List.length_take]; rfl)) ?_; (with_reducible refine (gram_Sym_IsTerm.calls (rd l0 x7_1) false _ A5.out).mono ?_); rintro e w' ⟨rfl, ⟨nd, rfl⟩⟩; refine ⟨_, rfl, ?_⟩))
       go_roundg k1
       case measure => have := HK1.out; omega
       case rel => exact ⟨(wrap64 (x7_1 + 1)), (by first | rfl | (simp; done) | (simp [*]; done)), H', ⟨by have := HK1.out; omega⟩, by repeat (first | exact Drawn0.refl _ | apply Drawn0.step)⟩
     ·rw [if_neg c4] at H
      exact absurd H (by simp)
    ·rw [if_neg c3] at H
     exact absurd H (by simp)
   ·rw [if_neg c2] at H
    have c2b0 : decide (x7_1 < (l0.length : Int)) = false := decide_eq_false c2
    clear c2
    obtain rfl := Option.some.inj H
    go_wp2
    go_ret
    exact ⟨by first | rfl | (simp; done) | (simp [*]; done) | (exfalso; simp only [beq_iff_eq] at *; omega), by repeat (first | exact Drawn0.refl _ | apply Drawn0.step)⟩
def shape_Lifted_1.f (k : Nat) (l0 : List Int) : Option (Bool) := if (l0.length : Int) < 2 then (some true) else ((shape_nonterminals.f k l0).bind fun t101 => (some t101))
set_option maxHeartbeats 8000000 in
set_option maxRecDepth 100000 in
theorem shape_Lifted_1.calls (k : Nat) (A0 : Option Addr) (c0 : Nat) (l0 : List Int) (r : Bool) (w : World) (hr0 : Kd.C (Kd.int .i64) w A0 l0.length l0) (hc0 : l0.length ≤ c0) (h : shape_Lifted_1.f k l0 = some r) :
  Calls Tryd.prog 42 #[.slice A0 l0.length c0] w fun e w' => e = .returned (.bool r) ∧ Drawn0 w w' := by
 have HR0 := Aside0.mk hr0
 have HC0 := Aside0.mk hc0
 clear hr0 hc0
 have H : (if (l0.length : Int) < 2 then (some true) else ((shape_nonterminals.f k l0).bind fun t101 => (some t101))) = some r := h
 clear h
 by_cases c2 : (l0.length : Int) < 2
 ·rw [if_pos c2] at H
  have c2b0 : decide ((l0.length : Int) < 2) = true := decide_eq_true c2
  have c2b1 : decide (l0.length < 2) = true := decide_eq_true (by omega)
  clear c2
  obtain rfl := Option.some.inj H
  go_enter Tryd.func42, Tryd.ntmps42
  go_wp2
  go_ret
  exact ⟨by first | rfl | (simp; done) | (simp [*]; done) | (exfalso; simp only [beq_iff_eq] at *; omega), by repeat (first | exact Drawn0.refl _ | apply Drawn0.step)⟩
 ·rw [if_neg c2] at H
  have c2b0 : decide ((l0.length : Int) < 2) = false := decide_eq_false c2
  have c2b1 : decide (l0.length < 2) = false := decide_eq_false (by omega)
  clear c2
  replace H := Option.bind_eq_some_iff.mp H
  obtain ⟨t101, A30, H⟩ := H
  replace H : (some t101) = some r := H
  have A3 := Aside0.mk A30
  clear A30
  obtain rfl := Option.some.inj H
  go_enter Tryd.func42, Tryd.ntmps42
  go_wp2_with (first | (go_at_call 43; (with_reducible refine (shape_nonterminals.calls k _ _ l0 t101 _ ?side1 ?side2 A3.out).mono ?_); (case side1 => repeat (first | exact HR0.out | (with_reducible refine Kd.C_alloc ?_ _) | (with_reducible refine Kd.C_drewN ?_ _) | (with_reducible refine Kd.C_drew ?_))); (case side2 => exact HC0.out); rintro e w' ⟨rfl, ⟨nd, rfl⟩⟩))
  go_ret
  exact ⟨by first | rfl | (simp; done) | (simp [*]; done) | (exfalso; simp only [beq_iff_eq] at *; omega), by repeat (first | exact Drawn0.refl _ | apply Drawn0.step)⟩
def shape_Chomsky_1.f (k : Nat) (l0 : List Int) : Option (Bool) := if (l0.length : Int) = 1 then (if 0 < (l0.length : Int) then ((gram_Sym_IsTerm.f (rd l0 0)).bind fun t102 => (if t102 = true then (some true) else (if (l0.length : Int) = 2 then ((shape_nonterminals.f k l0).bind fun t103 => (some t103)) else (some false)))) else (none)) else (if (l0.length : Int) = 2 then ((shape_nonterminals.f k l0).bind fun t104 => (some t104)) else (some false))
set_option maxHeartbeats 8000000 in
set_option maxRecDepth 100000 in
theorem shape_Chomsky_1.calls (k : Nat) (A0 : Option Addr) (c0 : Nat) (l0 : List Int) (r : Bool) (w : World) (hr0 : Kd.C (Kd.int .i64) w A0 l0.length l0) (hc0 : l0.length ≤ c0) (h : shape_Chomsky_1.f k l0 = some r) :
  Calls Tryd.prog 44 #[.slice A0 l0.length c0] w fun e w' => e = .returned (.bool r) ∧ Drawn0 w w' := by
 have HR0 := Aside0.mk hr0
 have HC0 := Aside0.mk hc0
 clear hr0 hc0
 have H : (if (l0.length : Int) = 1 then (if 0 < (l0.length : Int) then ((gram_Sym_IsTerm.f (rd l0 0)).bind fun t102 => (if t102 = true then (some true) else (if (l0.length : Int) = 2 then ((shape_nonterminals.f k l0).bind fun t103 => (some t103)) else (some false)))) else (none)) else (if (l0.length : Int) = 2 then ((shape_nonterminals.f k l0).bind fun t104 => (some t104)) else (some false))) = some r := h
 clear h
 by_cases c2 : (l0.length : Int) = 1
 ·rw [if_pos c2] at H
  have c2b0 : ((l0.length : Int) == 1) = true := beq_iff_eq.mpr c2
  have c2b1 : ((l0.length : Int) != 1) = false := bne_eq_false_iff_eq.mpr c2
  clear c2
  by_cases c3 : 0 < (l0.length : Int)
  ·rw [if_pos c3] at H
   have c3b0 : decide (0 < (l0.length : Int)) = true := decide_eq_true c3
   have c3b1 : decide (0 < l0.length) = true := decide_eq_true (by omega)
   clear c3
   replace H := Option.bind_eq_some_iff.mp H
   obtain ⟨t102, A40, H⟩ := H
   replace H : (if t102 = true then (some true) else (if (l0.length : Int) = 2 then ((shape_nonterminals.f k l0).bind fun t103 => (some t103)) else (some false))) = some r := H
   have A4 := Aside0.mk A40
   clear A40
   by_cases c5 : t102 = true
   ·subst c5
    have H1 : (some true) = some r := by rw [if_pos rfl] at H; exact H
    clear H
    have H := H1
    clear H1
    obtain rfl := Option.some.inj H
    have p101 : 0 ≤ (0 : Int) := (by omega)
    have q101 : 0 < (l0.length : Int) := of_decide_eq_true (by first | (with_reducible assumption) | assumption)
    obtain ⟨ad101, e101, hx101_0⟩ := Kd.at_int HR0.out 0 p101 q101
    cases e101
    have qi101 : (0 < l0.length) = True := eq_true (by omega)
    (try rw [show ((0 : Int)).toNat = 0 from rfl] at hx101_0)
    (try rw [Addr.add_zero'] at hx101_0)
    replace p101 := eq_true p101
    replace q101 := eq_true q101
    go_enter Tryd.func44, Tryd.ntmps44
    go_wp2_with (first | (go_at_call 33; (with_reducible refine (gram_Sym_IsTerm.calls (rd l0 0) true _ A4.out).mono ?_); rintro e w' ⟨rfl, ⟨nd, rfl⟩⟩))
    go_ret
    exact ⟨by first | rfl | (simp; done) | (simp [*]; done) | (exfalso; simp only [beq_iff_eq] at *; omega), by repeat (first | exact Drawn0.refl _ | apply Drawn0.step)⟩
   ·replace c5 := Bool.eq_false_iff.mpr c5
    subst c5
    have H1 : (if (l0.length : Int) = 2 then ((shape_nonterminals.f k l0).bind fun t103 => (some t103)) else (some false)) = some r := by rw [if_neg (show ¬ (false = true) by decide)] at H; exact H
    clear H
    have H := H1
    clear H1
    by_cases c6 : (l0.length : Int) = 2
    ·rw [if_pos c6] at H
     have c6b0 : ((l0.length : Int) == 2) = true := beq_iff_eq.mpr c6
     have c6b1 : ((l0.length : Int) != 2) = false := bne_eq_false_iff_eq.mpr c6
     clear c6
     replace H := Option.bind_eq_some_iff.mp H
     obtain ⟨t103, A70, H⟩ := H
     replace H : (some t103) = some r := H
     have A7 := Aside0.mk A70
     clear A70
     obtain rfl := Option.some.inj H
     have p101 : 0 ≤ (0 : Int) := (by omega)
     have q101 : 0 < (l0.length : Int) := of_decide_eq_true (by first | (with_reducible assumption) | assumption)
     obtain ⟨ad101, e101, hx101_0⟩ := Kd.at_int HR0.out 0 p101 q101
     cases e101
     have qi101 : (0 < l0.length) = True := eq_true (by omega)
     (try rw [show ((0 : Int)).toNat = 0 from rfl] at hx101_0)
     (try rw [Addr.add_zero'] at hx101_0)
     replace p101 := eq_true p101
     replace q101 := eq_true q101
     go_enter Tryd.func44, Tryd.ntmps44
     go_wp2_with (first | (go_at_call 33; (with_reducible refine (gram_Sym_IsTerm.calls (rd l0 0) false _ A4.out).mono ?_); rintro e w' ⟨rfl, ⟨nd, rfl⟩⟩) | (go_at_call 43; (with_reducible refine (shape_nonterminals.calls k _ _ l0 t103 _ ?side1 ?side2 A7.out).mono ?_); (case side1 => repeat (first | exact HR0.out | (with_reducible refine Kd.C_alloc ?_ _) | (with_reducible refine Kd.C_drewN ?_ _) | (with_reducible refine Kd.C_drew ?_))); (case side2 => exact HC0.out); rintro e w' ⟨rfl, ⟨nd, rfl⟩⟩))
     go_ret
     exact ⟨by first | rfl | (simp; done) | (simp [*]; done) | (exfalso; simp only [beq_iff_eq] at *; omega), by repeat (first | exact Drawn0.refl _ | apply Drawn0.step)⟩
    ·rw [if_neg c6] at H
     have c6b0 : ((l0.length : Int) == 2) = false := beq_eq_false_iff_ne.mpr c6
     have c6b1 : ((l0.length : Int) != 2) = true := bne_iff_ne.mpr c6
     obtain rfl := Option.some.inj H
     have p101 : 0 ≤ (0 : Int) := (by omega)
     have q101 : 0 < (l0.length : Int) := of_decide_eq_true (by first | (with_reducible assumption) | assumption)
     obtain ⟨ad101, e101, hx101_0⟩ := Kd.at_int HR0.out 0 p101 q101
     cases e101
     have qi101 : (0 < l0.length) = True := eq_true (by omega)
     (try rw [show ((0 : Int)).toNat = 0 from rfl] at hx101_0)
     (try rw [Addr.add_zero'] at hx101_0)
     replace p101 := eq_true p101
     replace q101 := eq_true q101
     go_enter Tryd.func44, Tryd.ntmps44
     go_wp2_with (first | (go_at_call 33; (with_reducible refine (gram_Sym_IsTerm.calls (rd l0 0) false _ A4.out).mono ?_); rintro e w' ⟨rfl, ⟨nd, rfl⟩⟩))
     go_ret
     exact ⟨by first | rfl | (simp; done) | (simp [*]; done) | (exfalso; simp only [beq_iff_eq] at *; omega), by repeat (first | exact Drawn0.refl _ | apply Drawn0.step)⟩
  ·rw [if_neg c3] at H
   exact absurd H (by simp)
 ·rw [if_neg c2] at H
  have c2b0 : ((l0.length : Int) == 1) = false := beq_eq_false_iff_ne.mpr c2
  have c2b1 : ((l0.length : Int) != 1) = true := bne_iff_ne.mpr c2
  by_cases c8 : (l0.length : Int) = 2
  ·rw [if_pos c8] at H
   have c8b0 : ((l0.length : Int) == 2) = true := beq_iff_eq.mpr c8
   have c8b1 : ((l0.length : Int) != 2) = false := bne_eq_false_iff_eq.mpr c8
   clear c8
   replace H := Option.bind_eq_some_iff.mp H
   obtain ⟨t104, A90, H⟩ := H
   replace H : (some t104) = some r := H
   have A9 := Aside0.mk A90
   clear A90
   obtain rfl := Option.some.inj H
   go_enter Tryd.func44, Tryd.ntmps44
   go_wp2_with (first | (go_at_call 43; (with_reducible refine (shape_nonterminals.calls k _ _ l0 t104 _ ?side1 ?side2 A9.out).mono ?_); (case side1 => repeat (first | exact HR0.out | (with_reducible refine Kd.C_alloc ?_ _) | (with_reducible refine Kd.C_drewN ?_ _) | (with_reducible refine Kd.C_drew ?_))); (case side2 => exact HC0.out); rintro e w' ⟨rfl, ⟨nd, rfl⟩⟩))
   go_ret
   exact ⟨by first | rfl | (simp; done) | (simp [*]; done) | (exfalso; simp only [beq_iff_eq] at *; omega), by repeat (first | exact Drawn0.refl _ | apply Drawn0.step)⟩
  ·rw [if_neg c8] at H
   have c8b0 : ((l0.length : Int) == 2) = false := beq_eq_false_iff_ne.mpr c8
   have c8b1 : ((l0.length : Int) != 2) = true := bne_iff_ne.mpr c8
   obtain rfl := Option.some.inj H
   go_enter Tryd.func44, Tryd.ntmps44
   go_wp2
   go_ret
   exact ⟨by first | rfl | (simp; done) | (simp [*]; done) | (exfalso; simp only [beq_iff_eq] at *; omega), by repeat (first | exact Drawn0.refl _ | apply Drawn0.step)⟩
def shape_NoEmpty_1.f (l0 : List Int) : Option (Bool) := some (decide ((l0.length : Int) > 0))
set_option maxHeartbeats 8000000 in
set_option maxRecDepth 100000 in
theorem shape_NoEmpty_1.calls (A0 : Option Addr) (c0 : Nat) (l0 : List Int) (r : Bool) (w : World) (hr0 : Kd.C (Kd.int .i64) w A0 l0.length l0) (hc0 : l0.length ≤ c0) (h : shape_NoEmpty_1.f l0 = some r) :
  Calls Tryd.prog 38 #[.slice A0 l0.length c0] w fun e w' => e = .returned (.bool r) ∧ Drawn0 w w' := by
 have HR0 := Aside0.mk hr0
 have HC0 := Aside0.mk hc0
 clear hr0 hc0
 have H : (some (decide ((l0.length : Int) > 0))) = some r := h
 clear h
 obtain rfl := Option.some.inj H
 go_enter Tryd.func38, Tryd.ntmps38
 go_wp2
 go_ret
 exact ⟨by first | rfl | (simp; done) | (simp [*]; done) | (exfalso; simp only [beq_iff_eq] at *; omega), by repeat (first | exact Drawn0.refl _ | apply Drawn0.step)⟩
def shape_NoUnit_1.f (l0 : List Int) : Option (Bool) := if (l0.length : Int) = 1 then (if 0 < (l0.length : Int) then ((gram_Sym_IsTerm.f (rd l0 0)).bind fun t102 => (some t102)) else (none)) else (some true)
set_option maxHeartbeats 8000000 in
set_option maxRecDepth 100000 in
theorem shape_NoUnit_1.calls (A0 : Option Addr) (c0 : Nat) (l0 : List Int) (r : Bool) (w : World) (hr0 : Kd.C (Kd.int .i64) w A0 l0.length l0) (hc0 : l0.length ≤ c0) (h : shape_NoUnit_1.f l0 = some r) :
  Calls Tryd.prog 40 #[.slice A0 l0.length c0] w fun e w' => e = .returned (.bool r) ∧ Drawn0 w w' := by
 have HR0 := Aside0.mk hr0
 have HC0 := Aside0.mk hc0
 clear hr0 hc0
 have H : (if (l0.length : Int) = 1 then (if 0 < (l0.length : Int) then ((gram_Sym_IsTerm.f (rd l0 0)).bind fun t102 => (some t102)) else (none)) else (some true)) = some r := h
 clear h
 by_cases c2 : (l0.length : Int) = 1
 ·rw [if_pos c2] at H
  have c2b0 : ((l0.length : Int) == 1) = true := beq_iff_eq.mpr c2
  have c2b1 : ((l0.length : Int) != 1) = false := bne_eq_false_iff_eq.mpr c2
  clear c2
  by_cases c3 : 0 < (l0.length : Int)
  ·rw [if_pos c3] at H
   have c3b0 : decide (0 < (l0.length : Int)) = true := decide_eq_true c3
   have c3b1 : decide (0 < l0.length) = true := decide_eq_true (by omega)
   clear c3
   replace H := Option.bind_eq_some_iff.mp H
   obtain ⟨t102, A40, H⟩ := H
   replace H : (some t102) = some r := H
   have A4 := Aside0.mk A40
   clear A40
   obtain rfl := Option.some.inj H
   have p101 : 0 ≤ (0 : Int) := (by omega)
   have q101 : 0 < (l0.length : Int) := of_decide_eq_true (by first | (with_reducible assumption) | assumption)
   obtain ⟨ad101, e101, hx101_0⟩ := Kd.at_int HR0.out 0 p101 q101
   cases e101
   have qi101 : (0 < l0.length) = True := eq_true (by omega)
   (try rw [show ((0 : Int)).toNat = 0 from rfl] at hx101_0)
   (try rw [Addr.add_zero'] at hx101_0)
   replace p101 := eq_true p101
   replace q101 := eq_true q101
   go_enter Tryd.func40, Tryd.ntmps40
   go_wp2_with (first | (go_at_call 33; (with_reducible refine (gram_Sym_IsTerm.calls (rd l0 0) t102 _ A4.out).mono ?_); rintro e w' ⟨rfl, ⟨nd, rfl⟩⟩))
   go_ret
   exact ⟨by first | rfl | (simp; done) | (simp [*]; done) | (exfalso; simp only [beq_iff_eq] at *; omega), by repeat (first | exact Drawn0.refl _ | apply Drawn0.step)⟩
  ·rw [if_neg c3] at H
   exact absurd H (by simp)
 ·rw [if_neg c2] at H
  have c2b0 : ((l0.length : Int) == 1) = false := beq_eq_false_iff_ne.mpr c2
  have c2b1 : ((l0.length : Int) != 1) = true := bne_iff_ne.mpr c2
  obtain rfl := Option.some.inj H
  go_enter Tryd.func40, Tryd.ntmps40
  go_wp2
  go_ret
  exact ⟨by first | rfl | (simp; done) | (simp [*]; done) | (exfalso; simp only [beq_iff_eq] at *; omega), by repeat (first | exact Drawn0.refl _ | apply Drawn0.step)⟩
end Go.Proofs.YtgdcnmpcfoomiaaDoor.G
end
section
set_option linter.unusedVariables false
set_option linter.unusedSimpArgs false
namespace Go.Proofs.YtgdcnmpcfoomiaaDoor.G
open Go Go.Proofs Go.RowKit Go.Proofs.YtgdcnmpcfoomiaaDoorW.PrintWords
set_option maxHeartbeats 4000000 in
set_option maxRecDepth 100000 in
theorem all_calls (p : List Int → Bool) (m : Nat) (hcall : ∀ (A : Option Addr) (c : Nat) (l : List Int) (W : World), Sem.run Tryd.prog (callFunc m #[.slice A l.length c]) W = .ok (.enter m #[.slice A l.length c]) W)
    (hp : ∀ (A : Option Addr) (c : Nat) (l : List Int) (W : World), l.length ≤ 1000000 → l.all symOk = true → Kd.C (Kd.int .i64) W A l.length l → l.length ≤ c → Calls Tryd.prog m #[.slice A l.length c] W fun e w' => e = .returned (.bool (p l)) ∧ Below W.heap.size W w')
    (A0 : Option Addr) (c0 : Nat) (l0 : List ByteArray) (A1 : Option Addr) (c1 : Nat) (l1 : List ByteArray) (a2 : Int) (A3 : Option Addr) (c3 : Nat) (l3 : List GRule) (hn : l3.length ≤ 1000000) (hok : l3.all ruleOk = true)
    (w : World) (hr3 : Kd.C k35 w A3 l3.length l3) (hc3 : l3.length ≤ c3) :
    Calls Tryd.prog 37 #[.agg #[.slice A0 l0.length c0, .slice A1 l1.length c1, .int .i64 a2, .slice A3 l3.length c3], .func (.func m) #[] #[]] w fun e w' => e = .returned (.bool (l3.all fun r => p r.f1)) ∧ Below w.heap.size w w' := by
  have hu := Tryd.underlying25
  have hu2 := Tryd.underlying35
  have OK := Lib.hid hok
  have HR3 := Lib.hid hr3
  clear hok hr3
  have hB0 : Below w.heap.size w (w.alloc (.cells #[.slice A0 l0.length c0, .slice A1 l1.length c1, .int .i64 a2, .slice A3 l3.length c3] 25)) := (Below.refl _ _).alloc (Nat.le_refl _) _
  have HB0 := Lib.hid hB0
  clear hB0
  go_enter Tryd.func37, Tryd.ntmps37
  go_wp2
  go_loopw [10] (fun i wr => ∃ j : Nat, j ≤ l3.length ∧ i = .int .i64 j ∧ Hid ((l3.take j).all (fun r => p r.f1) = true) ∧ Below w.heap.size w wr) (fun i _ => l3.length - (intOf i).toNat)
  case atStart => exact ⟨0, Nat.zero_le _, rfl, Lib.hid (by simp), HB0.out⟩
  case round =>
    obtain ⟨j, hj, rfl, HT, hB⟩ := hrel
    by_cases hjl : j < l3.length
    · obtain ⟨r, hr⟩ : ∃ r, r = l3[j] := ⟨_, rfl⟩
      have hmem : r ∈ l3 := by rw [hr]; exact List.getElem_mem _
      obtain ⟨ad, B1, d1, e0, hx0, hx1, hl1, hi1⟩ := at_T35 HR3.out (j : Int) (by omega) (by omega)
      subst e0
      have hrd : rd_T35 l3 (j : Int) = r := by rw [hr, rd_T35, Int.toNat_natCast, List.getD_eq_getElem?_getD, List.getElem?_eq_getElem hjl]; rfl
      rw [hrd] at hx0 hx1 hl1 hi1
      rw [Int.toNat_natCast] at hx0 hx1
      have hy0 := (hB.cell (World.block_lt_of_cell? w _ hx0)).trans hx0
      have hy1 := (hB.cell (World.block_lt_of_cell? w _ hx1)).trans hx1
      have HRR := Lib.hid hr
      have hro := List.all_eq_true.1 OK.out r hmem
      simp only [ruleOk, Bool.and_eq_true, decide_eq_true_eq] at hro
      have HRO := Lib.hid hro
      clear hx0 hx1 hrd hr hmem hro
      have hcs := hcall B1 d1 r.f1
      cases hb : p r.f1 with
      | false =>
        have HBF := Lib.hid hb
        clear hb
        go_wp2_with ((with_reducible refine (hp B1 d1 r.f1 _ HRO.out.1.2 HRO.out.2 (Kd.C_alloc (Kd.C_below hi1 hB) _) hl1).mono ?_); rintro e w2 ⟨rfl, hb2⟩; rw [HBF.out])
        go_ret
        have hB2 : Below w.heap.size w w2 := (hB.alloc hB.size _).trans (hb2.mono (below_alloc hB _).size)
        refine ⟨?_, hB2⟩
        have : (l3.all fun r => p r.f1) = false := by
          cases hh : l3.all fun r => p r.f1 with
          | false => rfl
          | true =>
            have := List.all_eq_true.1 hh r (by rw [HRR.out]; exact List.getElem_mem _)
            rw [HBF.out] at this; cases this
        rw [this]; rfl
      | true =>
        have HBF := Lib.hid hb
        clear hb
        go_wp2_with ((with_reducible refine (hp B1 d1 r.f1 _ HRO.out.1.2 HRO.out.2 (Kd.C_alloc (Kd.C_below hi1 hB) _) hl1).mono ?_); rintro e w2 ⟨rfl, hb2⟩; rw [HBF.out])
        have hB2 : Below w.heap.size w w2 := (hB.alloc hB.size _).trans (hb2.mono (below_alloc hB _).size)
        go_roundw
        case rel => exact ⟨j + 1, by omega, by go_num, Lib.hid (by rw [List.take_succ_eq_append_getElem hjl, List.all_append, HT.out, ← HRR.out]; simp [HBF.out]), hB2⟩
        case measure => simp [intOf]; omega
    · obtain rfl : j = l3.length := by omega
      have HQ : Hid ((l3.all fun r => p r.f1) = true) := Lib.hid (by rw [← HT.out, List.take_length])
      clear HT
      go_wp2
      go_ret
      exact ⟨by rw [HQ.out]; rfl, hB⟩
def nontB (l : List Int) : Bool := l.all fun s => decide (0 ≤ s)
def shp : Nat → List Int → Bool
  | 0, l => decide (0 < l.length)
  | 1, l => decide (l.length ≠ 1) || decide (l.getD 0 0 < 0)
  | 2, l => decide (l.length ≤ 2)
  | 3, l => decide (l.length < 2) || nontB l
  | 4, l => decide (l.length = 1) && decide (l.getD 0 0 < 0) || decide (l.length = 2) && nontB l
  | _, l => decide (0 < l.length) && (decide (l.getD 0 0 < 0) && nontB (l.drop 1))
theorem shp_0 (l : List Int) : shp 0 l = decide (0 < l.length) := rfl
theorem shp_1 (l : List Int) : shp 1 l = (decide (l.length ≠ 1) || decide (l.getD 0 0 < 0)) := rfl
theorem shp_2 (l : List Int) : shp 2 l = decide (l.length ≤ 2) := rfl
theorem shp_3 (l : List Int) : shp 3 l = (decide (l.length < 2) || nontB l) := rfl
theorem shp_4 (l : List Int) : shp 4 l = (decide (l.length = 1) && decide (l.getD 0 0 < 0) || decide (l.length = 2) && nontB l) := rfl
theorem shp_5 (l : List Int) : shp 5 l = (decide (0 < l.length) && (decide (l.getD 0 0 < 0) && nontB (l.drop 1))) := rfl
theorem nont_l0 (l : List Int) (hl : l.length ≤ 1000000) : ∀ (d i : Nat), i + d = l.length → Ev (fun k => shape_nonterminals.l0 k l (l.length : Int) (i : Int)) (nontB (l.drop i)) := by
  intro d
  induction d with
  | zero =>
    intro i hi
    refine Pure.ev_nowS fun k => ?_
    rw [shape_nonterminals.l0, if_neg (by omega), List.drop_eq_nil_of_le (by omega)]; rfl
  | succ d ih =>
    intro i hi
    have hi1 : i < l.length := by omega
    have hrd : rd l (i : Int) = l[i] := by rw [rd, Int.toNat_natCast, List.getD_eq_getElem?_getD, List.getElem?_eq_getElem hi1]; rfl
    have e : nontB (l.drop i) = (decide (0 ≤ l[i]) && nontB (l.drop (i + 1))) := by rw [List.drop_eq_getElem_cons hi1]; rfl
    have hs : wrap64 ((i : Int) + 1) = ((i + 1 : Nat) : Int) := by rw [IntWalk.wrap64_in _ ⟨by omega, by omega⟩]; rfl
    by_cases h0 : l[i] < 0
    · rw [e, decide_eq_false (by omega)]
      refine Pure.ev_nowS fun k => ?_
      rw [shape_nonterminals.l0, if_pos (by omega), if_pos (by omega), if_pos (by omega), hrd, isTerm_f, Option.bind_some, if_pos (decide_eq_true h0)]; rfl
    · rw [e, decide_eq_true (by omega), Bool.true_and]
      refine Ev.step (fun k => ?_) (ih (i + 1) (by omega))
      rw [shape_nonterminals.l0, if_pos (by omega), if_pos (by omega), if_pos (by omega), hrd, isTerm_f, Option.bind_some, if_neg (by simp [h0]), hs]
theorem nont_f (l : List Int) (hl : l.length ≤ 1000000) : Ev (fun k => shape_nonterminals.f k l) (nontB l) := by
  have := nont_l0 l hl l.length 0 (by omega)
  rwa [List.drop_zero] at this
theorem rd0 (l : List Int) : rd l 0 = l.getD 0 0 := rfl
theorem shp0_f (l : List Int) : shape_NoEmpty_1.f l = some (shp 0 l) := by
  rw [shp_0]
  unfold shape_NoEmpty_1.f
  congr 1
  by_cases h : 0 < l.length
  · rw [decide_eq_true h, decide_eq_true (by omega)]
  · rw [decide_eq_false h, decide_eq_false (by omega)]
theorem enters_shp0 (A : Option Addr) (c : Nat) (l : List Int) (W : World) : Sem.run Tryd.prog (callFunc 38 #[.slice A l.length c]) W = .ok (.enter 38 #[.slice A l.length c]) W := by kernel_rfl
theorem asks_shp0 (A : Option Addr) (c : Nat) (l : List Int) (W : World) (hl : l.length ≤ 1000000) (hs : l.all symOk = true) (hr : Kd.C (Kd.int .i64) W A l.length l) (hc : l.length ≤ c) : Calls Tryd.prog 38 #[.slice A l.length c] W fun e w' => e = .returned (.bool (shp 0 l)) ∧ Below W.heap.size W w' := by
  refine (shape_NoEmpty_1.calls A c l _ W hr hc (shp0_f l)).mono ?_
  rintro e w' ⟨rfl, hd⟩
  first | exact ⟨rfl, hd⟩ | exact ⟨rfl, hd.below⟩
set_option maxHeartbeats 2000000 in
set_option maxRecDepth 100000 in
theorem form0_calls (A0 : Option Addr) (c0 : Nat) (l0 : List ByteArray) (A1 : Option Addr) (c1 : Nat) (l1 : List ByteArray) (a2 : Int) (A3 : Option Addr) (c3 : Nat) (l3 : List GRule) (hn : l3.length ≤ 1000000) (hok : l3.all ruleOk = true)
    (w : World) (hr3 : Kd.C k35 w A3 l3.length l3) (hc3 : l3.length ≤ c3) :
    Calls Tryd.prog 12 #[.agg #[.slice A0 l0.length c0, .slice A1 l1.length c1, .int .i64 a2, .slice A3 l3.length c3]] w fun e w' => e = .returned (.bool (l3.all fun r => shp 0 r.f1)) ∧ Below w.heap.size w w' := by
  have hu := Tryd.underlying25
  have OK := Lib.hid hok
  have HR3 := Lib.hid hr3
  have HN := Lib.hid hn
  clear hok hr3 hn
  go_enter Tryd.func12, Tryd.ntmps12
  go_wp2_with fail
  refine (all_calls (shp 0) _ enters_shp0 asks_shp0 A0 c0 l0 A1 c1 l1 a2 A3 c3 l3 HN.out OK.out _ (Kd.C_alloc HR3.out _) hc3).mono ?_
  rintro e w2 ⟨rfl, hb2⟩
  go_wp2
  go_ret
  exact ⟨rfl, ((Below.refl _ _).alloc (Nat.le_refl _) _).trans (hb2.mono (below_alloc (Below.refl _ _) _).size)⟩
theorem shp1_f (l : List Int) : shape_NoUnit_1.f l = some (shp 1 l) := by
  rw [shp_1]
  unfold shape_NoUnit_1.f
  rw [isTerm_f, Option.bind_some, rd0]
  by_cases h : l.length = 1
  · rw [if_pos (by omega), if_pos (by omega), decide_eq_false (p := l.length ≠ 1) (by omega), Bool.false_or]
  · rw [if_neg (by omega), decide_eq_true (by omega)]; rfl
theorem enters_shp1 (A : Option Addr) (c : Nat) (l : List Int) (W : World) : Sem.run Tryd.prog (callFunc 40 #[.slice A l.length c]) W = .ok (.enter 40 #[.slice A l.length c]) W := by kernel_rfl
theorem asks_shp1 (A : Option Addr) (c : Nat) (l : List Int) (W : World) (hl : l.length ≤ 1000000) (hs : l.all symOk = true) (hr : Kd.C (Kd.int .i64) W A l.length l) (hc : l.length ≤ c) : Calls Tryd.prog 40 #[.slice A l.length c] W fun e w' => e = .returned (.bool (shp 1 l)) ∧ Below W.heap.size W w' := by
  refine (shape_NoUnit_1.calls A c l _ W hr hc (shp1_f l)).mono ?_
  rintro e w' ⟨rfl, hd⟩
  first | exact ⟨rfl, hd⟩ | exact ⟨rfl, hd.below⟩
set_option maxHeartbeats 2000000 in
set_option maxRecDepth 100000 in
theorem form1_calls (A0 : Option Addr) (c0 : Nat) (l0 : List ByteArray) (A1 : Option Addr) (c1 : Nat) (l1 : List ByteArray) (a2 : Int) (A3 : Option Addr) (c3 : Nat) (l3 : List GRule) (hn : l3.length ≤ 1000000) (hok : l3.all ruleOk = true)
    (w : World) (hr3 : Kd.C k35 w A3 l3.length l3) (hc3 : l3.length ≤ c3) :
    Calls Tryd.prog 14 #[.agg #[.slice A0 l0.length c0, .slice A1 l1.length c1, .int .i64 a2, .slice A3 l3.length c3]] w fun e w' => e = .returned (.bool (l3.all fun r => shp 1 r.f1)) ∧ Below w.heap.size w w' := by
  have hu := Tryd.underlying25
  have OK := Lib.hid hok
  have HR3 := Lib.hid hr3
  have HN := Lib.hid hn
  clear hok hr3 hn
  go_enter Tryd.func14, Tryd.ntmps14
  go_wp2_with fail
  refine (all_calls (shp 1) _ enters_shp1 asks_shp1 A0 c0 l0 A1 c1 l1 a2 A3 c3 l3 HN.out OK.out _ (Kd.C_alloc HR3.out _) hc3).mono ?_
  rintro e w2 ⟨rfl, hb2⟩
  go_wp2
  go_ret
  exact ⟨rfl, ((Below.refl _ _).alloc (Nat.le_refl _) _).trans (hb2.mono (below_alloc (Below.refl _ _) _).size)⟩
theorem shp2_f (l : List Int) : shape_Short_1.f l = some (shp 2 l) := by
  rw [shp_2]
  unfold shape_Short_1.f
  congr 1
  by_cases h : l.length ≤ 2
  · rw [decide_eq_true h, decide_eq_true (by omega)]
  · rw [decide_eq_false h, decide_eq_false (by omega)]
theorem enters_shp2 (A : Option Addr) (c : Nat) (l : List Int) (W : World) : Sem.run Tryd.prog (callFunc 41 #[.slice A l.length c]) W = .ok (.enter 41 #[.slice A l.length c]) W := by kernel_rfl
theorem asks_shp2 (A : Option Addr) (c : Nat) (l : List Int) (W : World) (hl : l.length ≤ 1000000) (hs : l.all symOk = true) (hr : Kd.C (Kd.int .i64) W A l.length l) (hc : l.length ≤ c) : Calls Tryd.prog 41 #[.slice A l.length c] W fun e w' => e = .returned (.bool (shp 2 l)) ∧ Below W.heap.size W w' := by
  refine (shape_Short_1.calls A c l _ W hr hc (shp2_f l)).mono ?_
  rintro e w' ⟨rfl, hd⟩
  first | exact ⟨rfl, hd⟩ | exact ⟨rfl, hd.below⟩
set_option maxHeartbeats 2000000 in
set_option maxRecDepth 100000 in
theorem form2_calls (A0 : Option Addr) (c0 : Nat) (l0 : List ByteArray) (A1 : Option Addr) (c1 : Nat) (l1 : List ByteArray) (a2 : Int) (A3 : Option Addr) (c3 : Nat) (l3 : List GRule) (hn : l3.length ≤ 1000000) (hok : l3.all ruleOk = true)
    (w : World) (hr3 : Kd.C k35 w A3 l3.length l3) (hc3 : l3.length ≤ c3) :
    Calls Tryd.prog 15 #[.agg #[.slice A0 l0.length c0, .slice A1 l1.length c1, .int .i64 a2, .slice A3 l3.length c3]] w fun e w' => e = .returned (.bool (l3.all fun r => shp 2 r.f1)) ∧ Below w.heap.size w w' := by
  have hu := Tryd.underlying25
  have OK := Lib.hid hok
  have HR3 := Lib.hid hr3
  have HN := Lib.hid hn
  clear hok hr3 hn
  go_enter Tryd.func15, Tryd.ntmps15
  go_wp2_with fail
  refine (all_calls (shp 2) _ enters_shp2 asks_shp2 A0 c0 l0 A1 c1 l1 a2 A3 c3 l3 HN.out OK.out _ (Kd.C_alloc HR3.out _) hc3).mono ?_
  rintro e w2 ⟨rfl, hb2⟩
  go_wp2
  go_ret
  exact ⟨rfl, ((Below.refl _ _).alloc (Nat.le_refl _) _).trans (hb2.mono (below_alloc (Below.refl _ _) _).size)⟩
theorem shp3_f (l : List Int) (hl : l.length ≤ 1000000) : Ev (fun k => shape_Lifted_1.f k l) (shp 3 l) := by
  rw [shp_3]
  unfold shape_Lifted_1.f
  by_cases h : l.length < 2
  · rw [decide_eq_true h]
    exact Pure.Ev.pos (by omega) (Ev.now _)
  · rw [decide_eq_false h, Bool.false_or]
    exact Pure.Ev.neg (by omega) (Ev.bind (nont_f l hl) (Ev.now _))
theorem enters_shp3 (A : Option Addr) (c : Nat) (l : List Int) (W : World) : Sem.run Tryd.prog (callFunc 42 #[.slice A l.length c]) W = .ok (.enter 42 #[.slice A l.length c]) W := by kernel_rfl
theorem asks_shp3 (A : Option Addr) (c : Nat) (l : List Int) (W : World) (hl : l.length ≤ 1000000) (hs : l.all symOk = true) (hr : Kd.C (Kd.int .i64) W A l.length l) (hc : l.length ≤ c) : Calls Tryd.prog 42 #[.slice A l.length c] W fun e w' => e = .returned (.bool (shp 3 l)) ∧ Below W.heap.size W w' := by
  obtain ⟨K, hK⟩ := Pure.Ev.out (shp3_f l hl)
  refine (shape_Lifted_1.calls K A c l _ W hr hc (hK K (Nat.le_refl _))).mono ?_
  rintro e w' ⟨rfl, hd⟩
  first | exact ⟨rfl, hd⟩ | exact ⟨rfl, hd.below⟩
set_option maxHeartbeats 2000000 in
set_option maxRecDepth 100000 in
theorem form3_calls (A0 : Option Addr) (c0 : Nat) (l0 : List ByteArray) (A1 : Option Addr) (c1 : Nat) (l1 : List ByteArray) (a2 : Int) (A3 : Option Addr) (c3 : Nat) (l3 : List GRule) (hn : l3.length ≤ 1000000) (hok : l3.all ruleOk = true)
    (w : World) (hr3 : Kd.C k35 w A3 l3.length l3) (hc3 : l3.length ≤ c3) :
    Calls Tryd.prog 16 #[.agg #[.slice A0 l0.length c0, .slice A1 l1.length c1, .int .i64 a2, .slice A3 l3.length c3]] w fun e w' => e = .returned (.bool (l3.all fun r => shp 3 r.f1)) ∧ Below w.heap.size w w' := by
  have hu := Tryd.underlying25
  have OK := Lib.hid hok
  have HR3 := Lib.hid hr3
  have HN := Lib.hid hn
  clear hok hr3 hn
  go_enter Tryd.func16, Tryd.ntmps16
  go_wp2_with fail
  refine (all_calls (shp 3) _ enters_shp3 asks_shp3 A0 c0 l0 A1 c1 l1 a2 A3 c3 l3 HN.out OK.out _ (Kd.C_alloc HR3.out _) hc3).mono ?_
  rintro e w2 ⟨rfl, hb2⟩
  go_wp2
  go_ret
  exact ⟨rfl, ((Below.refl _ _).alloc (Nat.le_refl _) _).trans (hb2.mono (below_alloc (Below.refl _ _) _).size)⟩
theorem shp4_f (l : List Int) (hl : l.length ≤ 1000000) : Ev (fun k => shape_Chomsky_1.f k l) (shp 4 l) := by
  rw [shp_4]
  unfold shape_Chomsky_1.f
  by_cases h1 : l.length = 1
  · refine Pure.Ev.pos (by omega) (Pure.Ev.pos (by omega) (Pure.Ev.got (isTerm_f _) ?_))
    rw [rd0, decide_eq_true h1, decide_eq_false (show ¬ l.length = 2 by omega), Bool.true_and, Bool.false_and, Bool.or_false]
    by_cases h0 : l.getD 0 0 < 0
    · rw [decide_eq_true h0]
      exact Pure.Ev.pos rfl (Ev.now _)
    · rw [decide_eq_false h0]
      exact Pure.Ev.neg (by simp) (Pure.Ev.neg (by omega) (Ev.now _))
  · rw [decide_eq_false h1, Bool.false_and, Bool.false_or]
    refine Pure.Ev.neg (by omega) ?_
    by_cases h2 : l.length = 2
    · rw [decide_eq_true h2, Bool.true_and]
      exact Pure.Ev.pos (by omega) (Ev.bind (nont_f l hl) (Ev.now _))
    · rw [decide_eq_false h2, Bool.false_and]
      exact Pure.Ev.neg (by omega) (Ev.now _)
theorem enters_shp4 (A : Option Addr) (c : Nat) (l : List Int) (W : World) : Sem.run Tryd.prog (callFunc 44 #[.slice A l.length c]) W = .ok (.enter 44 #[.slice A l.length c]) W := by kernel_rfl
theorem asks_shp4 (A : Option Addr) (c : Nat) (l : List Int) (W : World) (hl : l.length ≤ 1000000) (hs : l.all symOk = true) (hr : Kd.C (Kd.int .i64) W A l.length l) (hc : l.length ≤ c) : Calls Tryd.prog 44 #[.slice A l.length c] W fun e w' => e = .returned (.bool (shp 4 l)) ∧ Below W.heap.size W w' := by
  obtain ⟨K, hK⟩ := Pure.Ev.out (shp4_f l hl)
  refine (shape_Chomsky_1.calls K A c l _ W hr hc (hK K (Nat.le_refl _))).mono ?_
  rintro e w' ⟨rfl, hd⟩
  first | exact ⟨rfl, hd⟩ | exact ⟨rfl, hd.below⟩
set_option maxHeartbeats 2000000 in
set_option maxRecDepth 100000 in
theorem form4_calls (A0 : Option Addr) (c0 : Nat) (l0 : List ByteArray) (A1 : Option Addr) (c1 : Nat) (l1 : List ByteArray) (a2 : Int) (A3 : Option Addr) (c3 : Nat) (l3 : List GRule) (hn : l3.length ≤ 1000000) (hok : l3.all ruleOk = true)
    (w : World) (hr3 : Kd.C k35 w A3 l3.length l3) (hc3 : l3.length ≤ c3) :
    Calls Tryd.prog 17 #[.agg #[.slice A0 l0.length c0, .slice A1 l1.length c1, .int .i64 a2, .slice A3 l3.length c3]] w fun e w' => e = .returned (.bool (l3.all fun r => shp 4 r.f1)) ∧ Below w.heap.size w w' := by
  have hu := Tryd.underlying25
  have OK := Lib.hid hok
  have HR3 := Lib.hid hr3
  have HN := Lib.hid hn
  clear hok hr3 hn
  go_enter Tryd.func17, Tryd.ntmps17
  go_wp2_with fail
  refine (all_calls (shp 4) _ enters_shp4 asks_shp4 A0 c0 l0 A1 c1 l1 a2 A3 c3 l3 HN.out OK.out _ (Kd.C_alloc HR3.out _) hc3).mono ?_
  rintro e w2 ⟨rfl, hb2⟩
  go_wp2
  go_ret
  exact ⟨rfl, ((Below.refl _ _).alloc (Nat.le_refl _) _).trans (hb2.mono (below_alloc (Below.refl _ _) _).size)⟩
theorem enters_shp5 (A : Option Addr) (c : Nat) (l : List Int) (W : World) : Sem.run Tryd.prog (callFunc 45 #[.slice A l.length c]) W = .ok (.enter 45 #[.slice A l.length c]) W := by kernel_rfl
set_option maxHeartbeats 2000000 in
theorem asks_shp5 (A : Option Addr) (c : Nat) (l : List Int) (W : World) (hl : l.length ≤ 1000000) (hs : l.all symOk = true) (hr : Kd.C (Kd.int .i64) W A l.length l) (hc : l.length ≤ c) : Calls Tryd.prog 45 #[.slice A l.length c] W fun e w' => e = .returned (.bool (shp 5 l)) ∧ Below W.heap.size W w' := by
  have hr' := hr
  cases l with
  | nil =>
    clear hs hr hr'
    go_enter Tryd.func45, Tryd.ntmps45
    go_wp2
    go_ret
    exact ⟨rfl, Below.refl _ _⟩
  | cons s l' =>
    obtain ⟨ad, e0, hx⟩ := Kd.at_int hr 0 (by omega) (by simp)
    subst e0
    rw [show rd (s :: l') 0 = s from rfl, show (0 : Int).toNat = 0 from rfl, Addr.add_zero'] at hx
    obtain ⟨i0, hi0, _, hsz, _⟩ := info_parts info55
    obtain ⟨A2, hcut, hA, hC⟩ := print_drop_of (P := Tryd.prog) (Value.int .i64) 0 33 55 .i64 Tryd.underlying33 hi0 hsz (some ad) c (s :: l') 1 (by omega) (by rw [List.length_cons]; omega) hc
    have hcut2 : ∀ W : World, (Instr.slice 33 (.slice (some ad) (s :: l').length c) (some (.int .i64 1)) none none).run Tryd.prog W = .ok (.slice A2 l'.length (c - 1)) W := hcut
    have hR2 : Kd.C (Kd.int .i64) W A2 l'.length l' := Kd.C_of_reads (h1 := fun _ => rfl) (hA _ (Kd.reads_of_C hr))
    have hC2 : l'.length ≤ c - 1 := hC
    have HR2 := Lib.hid hR2
    have HC2 := Lib.hid hC2
    have HLL : Hid (l'.length ≤ 1000000) := Lib.hid (by rw [List.length_cons] at hl; omega)
    have HE : Hid (shp 5 (s :: l') = (decide (s < 0) && nontB l')) := Lib.hid (by rw [shp_5]; simp)
    have hlen : 0 < (s :: l').length := by simp
    obtain ⟨n, hn⟩ : ∃ n, (s :: l').length = n := ⟨_, rfl⟩
    rw [hn] at hcut2 hlen ⊢
    have HF := Lib.hid (isTerm_f s)
    obtain ⟨K, hK⟩ := Pure.Ev.out (nont_f l' HLL.out)
    have HK := Lib.hid (hK K (Nat.le_refl _))
    clear hcut hA hC hR2 hC2 hs hr hr' hi0 hsz hn hl hc hK
    have hnt : decide ((0 : Int) < (n : Int)) = true := decide_eq_true (by omega)
    by_cases h0 : s < 0
    · have h1 : decide (s < 0) = true := decide_eq_true h0
      rw [h1] at HF HE
      clear h0 h1
      go_enter Tryd.func45, Tryd.ntmps45
      go_wp2_with (first | (go_at_call 33; (with_reducible refine (gram_Sym_IsTerm.calls s true _ HF.out).mono ?_); rintro e w' ⟨rfl, ⟨nd, rfl⟩⟩) | (go_at_call 43; (with_reducible refine (shape_nonterminals.calls K _ _ l' _ _ (Kd.C_drewN HR2.out _) HC2.out HK.out).mono ?_); rintro e w' ⟨rfl, ⟨nd2, rfl⟩⟩))
      go_ret
      refine ⟨by rw [HE.out, Bool.true_and]; rfl, ?_⟩
      exact pw_below_drewN (Below.refl _ _) _
    · have h1 : decide (s < 0) = false := decide_eq_false h0
      rw [h1] at HF HE
      clear h0 h1
      go_enter Tryd.func45, Tryd.ntmps45
      go_wp2_with (go_at_call 33; (with_reducible refine (gram_Sym_IsTerm.calls s false _ HF.out).mono ?_); rintro e w' ⟨rfl, ⟨nd, rfl⟩⟩)
      go_ret
      refine ⟨by rw [HE.out, Bool.false_and]; rfl, ?_⟩
      exact pw_below_drewN (Below.refl _ _) _
set_option maxHeartbeats 2000000 in
set_option maxRecDepth 100000 in
theorem form5_calls (A0 : Option Addr) (c0 : Nat) (l0 : List ByteArray) (A1 : Option Addr) (c1 : Nat) (l1 : List ByteArray) (a2 : Int) (A3 : Option Addr) (c3 : Nat) (l3 : List GRule) (hn : l3.length ≤ 1000000) (hok : l3.all ruleOk = true)
    (w : World) (hr3 : Kd.C k35 w A3 l3.length l3) (hc3 : l3.length ≤ c3) :
    Calls Tryd.prog 18 #[.agg #[.slice A0 l0.length c0, .slice A1 l1.length c1, .int .i64 a2, .slice A3 l3.length c3]] w fun e w' => e = .returned (.bool (l3.all fun r => shp 5 r.f1)) ∧ Below w.heap.size w w' := by
  have hu := Tryd.underlying25
  have OK := Lib.hid hok
  have HR3 := Lib.hid hr3
  have HN := Lib.hid hn
  clear hok hr3 hn
  go_enter Tryd.func18, Tryd.ntmps18
  go_wp2_with fail
  refine (all_calls (shp 5) _ enters_shp5 asks_shp5 A0 c0 l0 A1 c1 l1 a2 A3 c3 l3 HN.out OK.out _ (Kd.C_alloc HR3.out _) hc3).mono ?_
  rintro e w2 ⟨rfl, hb2⟩
  go_wp2
  go_ret
  exact ⟨rfl, ((Below.refl _ _).alloc (Nat.le_refl _) _).trans (hb2.mono (below_alloc (Below.refl _ _) _).size)⟩
end Go.Proofs.YtgdcnmpcfoomiaaDoor.G
end
section
namespace Go.Proofs.YtgdcnmpcfoomiaaDoor.G
open Go.RowKit Go.Proofs.YtgdcnmpcfoomiaaDoorW.PrintWords Go.Proofs.YtgdcnmpcfoomiaaDoorW.PrintLast Go.Proofs.YtgdcnmpcfoomiaaDoorW.PrintMore
attribute [local go_sem] max2_int min2_int max_two min_two max_three min_three max_four min_four
attribute [local go_sem] Go.Proofs.YtgdcnmpcfoomiaaDoorOwn.isSome_setCell
set_option linter.unusedVariables false
set_option linter.unusedSimpArgs false
def shape_Short.f (l0_0 : List ByteArray) (l0_1 : List ByteArray) (a0_2 : Int) (l0_3 : List GRule) : Option Bool := if gramOk l0_0 l0_1 a0_2 l0_3 = true then some (l0_3.all fun r => shp 2 r.f1) else none
theorem shape_Short.calls (A0_0 : Option Addr) (c0_0 : Nat) (l0_0 : List ByteArray) (A0_1 : Option Addr) (c0_1 : Nat) (l0_1 : List ByteArray) (a0_2 : Int) (A0_3 : Option Addr) (c0_3 : Nat) (l0_3 : List GRule) (r : Bool) (w : World) (hr0_0 : Kd.C Kd.string w A0_0 l0_0.length l0_0) (hc0_0 : l0_0.length ≤ c0_0) (hr0_1 : Kd.C Kd.string w A0_1 l0_1.length l0_1) (hc0_1 : l0_1.length ≤ c0_1) (hr0_3 : Kd.C k35 w A0_3 l0_3.length l0_3) (hc0_3 : l0_3.length ≤ c0_3) (h : shape_Short.f l0_0 l0_1 a0_2 l0_3 = some r) :
  Calls Tryd.prog 15 #[.agg #[.slice A0_0 l0_0.length c0_0, .slice A0_1 l0_1.length c0_1, .int .i64 a0_2, .slice A0_3 l0_3.length c0_3]] w fun e w' => e = .returned (.bool r) ∧ Below w.heap.size w w' := by
 unfold shape_Short.f at h
 split at h
 ·rename_i hok
  obtain rfl := Option.some.inj h
  have hb := hok
  simp only [gramOk, Bool.and_eq_true, decide_eq_true_eq] at hb
  exact form2_calls A0_0 c0_0 l0_0 A0_1 c0_1 l0_1 a0_2 A0_3 c0_3 l0_3 hb.1.1.1.1.2 hb.2 w hr0_3 hc0_3
 ·cases h
end Go.Proofs.YtgdcnmpcfoomiaaDoor.G
end
section
namespace Go.Proofs.YtgdcnmpcfoomiaaDoor.G
open Go.RowKit Go.Proofs.YtgdcnmpcfoomiaaDoorW.PrintWords Go.Proofs.YtgdcnmpcfoomiaaDoorW.PrintLast Go.Proofs.YtgdcnmpcfoomiaaDoorW.PrintMore
attribute [local go_sem] max2_int min2_int max_two min_two max_three min_three max_four min_four
attribute [local go_sem] Go.Proofs.YtgdcnmpcfoomiaaDoorOwn.isSome_setCell
set_option linter.unusedVariables false
set_option linter.unusedSimpArgs false
def shape_Lifted.f (l0_0 : List ByteArray) (l0_1 : List ByteArray) (a0_2 : Int) (l0_3 : List GRule) : Option Bool := if gramOk l0_0 l0_1 a0_2 l0_3 = true then some (l0_3.all fun r => shp 3 r.f1) else none
theorem shape_Lifted.calls (A0_0 : Option Addr) (c0_0 : Nat) (l0_0 : List ByteArray) (A0_1 : Option Addr) (c0_1 : Nat) (l0_1 : List ByteArray) (a0_2 : Int) (A0_3 : Option Addr) (c0_3 : Nat) (l0_3 : List GRule) (r : Bool) (w : World) (hr0_0 : Kd.C Kd.string w A0_0 l0_0.length l0_0) (hc0_0 : l0_0.length ≤ c0_0) (hr0_1 : Kd.C Kd.string w A0_1 l0_1.length l0_1) (hc0_1 : l0_1.length ≤ c0_1) (hr0_3 : Kd.C k35 w A0_3 l0_3.length l0_3) (hc0_3 : l0_3.length ≤ c0_3) (h : shape_Lifted.f l0_0 l0_1 a0_2 l0_3 = some r) :
  Calls Tryd.prog 16 #[.agg #[.slice A0_0 l0_0.length c0_0, .slice A0_1 l0_1.length c0_1, .int .i64 a0_2, .slice A0_3 l0_3.length c0_3]] w fun e w' => e = .returned (.bool r) ∧ Below w.heap.size w w' := by
 unfold shape_Lifted.f at h
 split at h
 ·rename_i hok
  obtain rfl := Option.some.inj h
  have hb := hok
  simp only [gramOk, Bool.and_eq_true, decide_eq_true_eq] at hb
  exact form3_calls A0_0 c0_0 l0_0 A0_1 c0_1 l0_1 a0_2 A0_3 c0_3 l0_3 hb.1.1.1.1.2 hb.2 w hr0_3 hc0_3
 ·cases h
end Go.Proofs.YtgdcnmpcfoomiaaDoor.G
end
section
namespace Go.Proofs.YtgdcnmpcfoomiaaDoor.G
open Go.RowKit Go.Proofs.YtgdcnmpcfoomiaaDoorW.PrintWords Go.Proofs.YtgdcnmpcfoomiaaDoorW.PrintLast Go.Proofs.YtgdcnmpcfoomiaaDoorW.PrintMore
attribute [local go_sem] max2_int min2_int max_two min_two max_three min_three max_four min_four
attribute [local go_sem] Go.Proofs.YtgdcnmpcfoomiaaDoorOwn.isSome_setCell
set_option linter.unusedVariables false
set_option linter.unusedSimpArgs false
def shape_Chomsky.f (l0_0 : List ByteArray) (l0_1 : List ByteArray) (a0_2 : Int) (l0_3 : List GRule) : Option Bool := if gramOk l0_0 l0_1 a0_2 l0_3 = true then some (l0_3.all fun r => shp 4 r.f1) else none
theorem shape_Chomsky.calls (A0_0 : Option Addr) (c0_0 : Nat) (l0_0 : List ByteArray) (A0_1 : Option Addr) (c0_1 : Nat) (l0_1 : List ByteArray) (a0_2 : Int) (A0_3 : Option Addr) (c0_3 : Nat) (l0_3 : List GRule) (r : Bool) (w : World) (hr0_0 : Kd.C Kd.string w A0_0 l0_0.length l0_0) (hc0_0 : l0_0.length ≤ c0_0) (hr0_1 : Kd.C Kd.string w A0_1 l0_1.length l0_1) (hc0_1 : l0_1.length ≤ c0_1) (hr0_3 : Kd.C k35 w A0_3 l0_3.length l0_3) (hc0_3 : l0_3.length ≤ c0_3) (h : shape_Chomsky.f l0_0 l0_1 a0_2 l0_3 = some r) :
  Calls Tryd.prog 17 #[.agg #[.slice A0_0 l0_0.length c0_0, .slice A0_1 l0_1.length c0_1, .int .i64 a0_2, .slice A0_3 l0_3.length c0_3]] w fun e w' => e = .returned (.bool r) ∧ Below w.heap.size w w' := by
 unfold shape_Chomsky.f at h
 split at h
 ·rename_i hok
  obtain rfl := Option.some.inj h
  have hb := hok
  simp only [gramOk, Bool.and_eq_true, decide_eq_true_eq] at hb
  exact form4_calls A0_0 c0_0 l0_0 A0_1 c0_1 l0_1 a0_2 A0_3 c0_3 l0_3 hb.1.1.1.1.2 hb.2 w hr0_3 hc0_3
 ·cases h
end Go.Proofs.YtgdcnmpcfoomiaaDoor.G
end
section
namespace Go.Proofs.YtgdcnmpcfoomiaaDoor.G
open Go.RowKit Go.Proofs.YtgdcnmpcfoomiaaDoorW.PrintWords Go.Proofs.YtgdcnmpcfoomiaaDoorW.PrintLast Go.Proofs.YtgdcnmpcfoomiaaDoorW.PrintMore
attribute [local go_sem] max2_int min2_int max_two min_two max_three min_three max_four min_four
attribute [local go_sem] Go.Proofs.YtgdcnmpcfoomiaaDoorOwn.isSome_setCell
set_option linter.unusedVariables false
set_option linter.unusedSimpArgs false
def shape_Greibach.f (l0_0 : List ByteArray) (l0_1 : List ByteArray) (a0_2 : Int) (l0_3 : List GRule) : Option Bool := if gramOk l0_0 l0_1 a0_2 l0_3 = true then some (l0_3.all fun r => shp 5 r.f1) else none
theorem shape_Greibach.calls (A0_0 : Option Addr) (c0_0 : Nat) (l0_0 : List ByteArray) (A0_1 : Option Addr) (c0_1 : Nat) (l0_1 : List ByteArray) (a0_2 : Int) (A0_3 : Option Addr) (c0_3 : Nat) (l0_3 : List GRule) (r : Bool) (w : World) (hr0_0 : Kd.C Kd.string w A0_0 l0_0.length l0_0) (hc0_0 : l0_0.length ≤ c0_0) (hr0_1 : Kd.C Kd.string w A0_1 l0_1.length l0_1) (hc0_1 : l0_1.length ≤ c0_1) (hr0_3 : Kd.C k35 w A0_3 l0_3.length l0_3) (hc0_3 : l0_3.length ≤ c0_3) (h : shape_Greibach.f l0_0 l0_1 a0_2 l0_3 = some r) :
  Calls Tryd.prog 18 #[.agg #[.slice A0_0 l0_0.length c0_0, .slice A0_1 l0_1.length c0_1, .int .i64 a0_2, .slice A0_3 l0_3.length c0_3]] w fun e w' => e = .returned (.bool r) ∧ Below w.heap.size w w' := by
 unfold shape_Greibach.f at h
 split at h
 ·rename_i hok
  obtain rfl := Option.some.inj h
  have hb := hok
  simp only [gramOk, Bool.and_eq_true, decide_eq_true_eq] at hb
  exact form5_calls A0_0 c0_0 l0_0 A0_1 c0_1 l0_1 a0_2 A0_3 c0_3 l0_3 hb.1.1.1.1.2 hb.2 w hr0_3 hc0_3
 ·cases h
end Go.Proofs.YtgdcnmpcfoomiaaDoor.G
end
