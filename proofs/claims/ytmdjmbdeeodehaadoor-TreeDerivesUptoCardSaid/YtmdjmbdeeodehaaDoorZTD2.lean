/- TreeDerives of the law03, where what it reads is of bulk at most 1048576: answers true: the leftmost derivation by the rules that a fitting tree uses ends in the tree's yield: part 3 of 6 of its proof, packed by a program of this session out of the texts GLaw021, GramS, OpenG, GramN, TreeO, GramO, GTree1, GRef031, TreeP, RegT, TreeW, TreeF. -/
import Derived.Test.YtmdjmbdeeodehaaDoorZTD1
import Derived.Lib.SmallJoins
import Derived.SizedLaws
import Derived.Deep.Strs
import Derived.Test.YtmdjmbdeeodehaaDoorRows
import Derived.Deep.RegionLaw
import Derived.Laws.Rows
import Derived.OrdersHeld
import Derived.Below
import Derived.KernelRfl
import Derived.Deep.RegionHeld
import Derived.Deep.RegionHeld3
import Derived.Deep.QuietTactic
import Derived.BigQuiet
section
namespace Go.Proofs.YtmdjmbdeeodehaaDoor.G
open Go.RowKit Go.Proofs.YtmdjmbdeeodehaaDoorW.PrintWords Go.Proofs.YtmdjmbdeeodehaaDoorW.PrintLast Go.Proofs.YtmdjmbdeeodehaaDoorW.PrintMore
attribute [local go_sem] max2_int min2_int max_two min_two max_three min_three max_four min_four
attribute [local go_sem] Go.Proofs.YtmdjmbdeeodehaaDoorOwn.isSome_setCell
set_option linter.unusedVariables false
set_option linter.unusedSimpArgs false
mutual
def wickerlaw02_Small.l0 : Nat → Int → List (S32) → Int → Int → List ByteArray → List ByteArray → Int → List (S32) → Option (Bool)
 | 0, _, _, _, _, _, _, _, _ => none
 | k + 1, x3, x11, x12, x13, x102000, x102001, x102002, x102003 => if x13 < x12 then (if 0 ≤ x13 then (if x13 < (x11.length : Int) then (wickerlaw02_Small.l0 k (wrap64 (x3 + (wrap64 (1 + (((rd_T32 x11 x13).f1).length : Int))))) x11 x12 (wrap64 (x13 + 1)) x102000 x102001 x102002 x102003) else (none)) else (none)) else (wickerlaw02_Small.l1 k x3 x102000 (x102000.length : Int) 0 x102000 x102001 x102002 x102003)
def wickerlaw02_Small.l1 : Nat → Int → List ByteArray → Int → Int → List ByteArray → List ByteArray → Int → List (S32) → Option (Bool)
 | 0, _, _, _, _, _, _, _, _ => none
 | k + 1, x3, x25, x26, x27, x102000, x102001, x102002, x102003 => if x27 < x26 then (if 0 ≤ x27 then (if x27 < (x25.length : Int) then (wickerlaw02_Small.l1 k (wrap64 (x3 + (wrap64 (((rdOf ByteArray.empty x25 x27).size : Int) / 16)))) x25 x26 (wrap64 (x27 + 1)) x102000 x102001 x102002 x102003) else (none)) else (none)) else (wickerlaw02_Small.l2 k x3 x102001 (x102001.length : Int) 0 x102000 x102001 x102002 x102003)
def wickerlaw02_Small.l2 : Nat → Int → List ByteArray → Int → Int → List ByteArray → List ByteArray → Int → List (S32) → Option (Bool)
 | 0, _, _, _, _, _, _, _, _ => none
 | k + 1, x3, x38, x39, x40, x102000, x102001, x102002, x102003 => if x40 < x39 then (if 0 ≤ x40 then (if x40 < (x38.length : Int) then (wickerlaw02_Small.l2 k (wrap64 (x3 + (wrap64 (((rdOf ByteArray.empty x38 x40).size : Int) / 16)))) x38 x39 (wrap64 (x40 + 1)) x102000 x102001 x102002 x102003) else (none)) else (none)) else (if x3 ≤ 600 then (if (x102000.length : Int) ≤ 60 then (if (x102001.length : Int) ≤ 60 then (some (decide ((x102003.length : Int) ≤ 120))) else (some false)) else (some false)) else (some false))
end
def wickerlaw02_Small.f (k : Nat) (l0_0 : List ByteArray) (l0_1 : List ByteArray) (a0_2 : Int) (l0_3 : List (S32)) : Option (Bool) := wickerlaw02_Small.l0 k 0 l0_3 (l0_3.length : Int) 0 l0_0 l0_1 a0_2 l0_3
set_option maxHeartbeats 8000000 in
set_option maxRecDepth 100000 in
theorem wickerlaw02_Small.calls (k : Nat) (A0_0 : Option Addr) (c0_0 : Nat) (l0_0 : List ByteArray) (A0_1 : Option Addr) (c0_1 : Nat) (l0_1 : List ByteArray) (a0_2 : Int) (A0_3 : Option Addr) (c0_3 : Nat) (l0_3 : List (S32)) (r : Bool) (w : World) (hr0_0 : Kd.C Kd.string w A0_0 l0_0.length l0_0) (hc0_0 : l0_0.length ≤ c0_0) (hr0_1 : Kd.C Kd.string w A0_1 l0_1.length l0_1) (hc0_1 : l0_1.length ≤ c0_1) (hr0_3 : Kd.C k32 w A0_3 l0_3.length l0_3) (hc0_3 : l0_3.length ≤ c0_3) (h : wickerlaw02_Small.f k l0_0 l0_1 a0_2 l0_3 = some r) :
  Calls Tryd.prog 15 #[.agg #[.slice A0_0 l0_0.length c0_0, .slice A0_1 l0_1.length c0_1, .int .i64 a0_2, .slice A0_3 l0_3.length c0_3]] w fun e w' => e = .returned (.bool r) ∧ Below w.heap.size w w' := by
 have hu25 := Tryd.underlying25
 have hu32 := Tryd.underlying32
 have HR0_0 := Aside0.mk hr0_0
 have HC0_0 := Aside0.mk hc0_0
 clear hr0_0 hc0_0
 have HR0_1 := Aside0.mk hr0_1
 have HC0_1 := Aside0.mk hc0_1
 clear hr0_1 hc0_1
 have HR0_3 := Aside0.mk hr0_3
 have HC0_3 := Aside0.mk hc0_3
 clear hr0_3 hc0_3
 have HB := Aside0.mk (Below.refl w.heap.size w)
 have H : (wickerlaw02_Small.l0 k 0 l0_3 (l0_3.length : Int) 0 l0_0 l0_1 a0_2 l0_3) = some r := h
 clear h
 have H' := Aside0.mk H
 clear H
 go_enter Tryd.func15, Tryd.ntmps15
 go_wp2_with (first | ((with_reducible refine gate_dst (N := 1) rfl ?_); (try (refine gate_guard (by rfl) ?_; dsimp only)); refine box_event ?hg (N := 1) ?hd (cs := #[.slice A0_0 l0_0.length c0_0, .slice A0_1 l0_1.length c0_1, .int .i64 a0_2, .slice A0_3 l0_3.length c0_3]) (t := 25) ?hr ?_; (case hd => rfl); (case hg => rfl); (case hr => first | (go_simp; done) | (go_simp; rfl)); intro gb101 hg w2 hbox hb; have n0_ := Aside0.mk (below_step (by repeat (first | (with_reducible first | exact HB.out | apply below_alloc | apply pw_below_drewN | apply below_drew1) | exact HB.out)) hb); have n1_ := Aside0.mk (hbox); have n2_ := Aside0.mk ((by rw [hg]; exact (below_size (by repeat (first | (with_reducible first | exact HB.out | apply below_alloc | apply pw_below_drewN | apply below_drew1) | exact HB.out))) : w.heap.size ≤ gb101)); have n3_ := Aside0.mk ((by rw [hg]; exact (below_size (by repeat (first | (with_reducible first | exact HB.out | apply below_alloc | apply pw_below_drewN | apply below_drew1) | exact HB.out))) : w.heap.size ≤ gb101)); clear HB; have HB := n0_; have BK101 := n1_; have GW101 := n2_; have GE101 := n3_; clear n0_ n1_ n2_ n3_; clear hb hbox hg; have hcz3_0 : w2.cell? ⟨gb101, 0, none⟩ = some (.slice A0_0 l0_0.length c0_0) := (blk_cell BK101.out 0).trans rfl; have hcz3_1 : w2.cell? ⟨gb101, 1, none⟩ = some (.slice A0_1 l0_1.length c0_1) := (blk_cell BK101.out 1).trans rfl; have hcz3_2 : w2.cell? ⟨gb101, 2, none⟩ = some (.int .i64 a0_2) := (blk_cell BK101.out 2).trans rfl; have hcz3_3 : w2.cell? ⟨gb101, 3, none⟩ = some (.slice A0_3 l0_3.length c0_3) := (blk_cell BK101.out 3).trans rfl; have hfz3_0 := blk_frozen BK101.out 0; have hfz3_1 := blk_frozen BK101.out 1; have hfz3_2 := blk_frozen BK101.out 2; have hfz3_3 := blk_frozen BK101.out 3))
 go_loopg [3, 13] k (fun kq v3 v13 w' => ∃ (x3_1 : Int) (x13_1 : Int), v3 = .int .i64 x3_1 ∧ v13 = .int .i64 x13_1 ∧ Aside0 (wickerlaw02_Small.l0 kq x3_1 l0_3 (l0_3.length : Int) x13_1 l0_0 l0_1 a0_2 l0_3 = some r) ∧ Aside0 (kq ≤ k) ∧ Aside0 (w'.heap[gb101]? = some (.cells #[(.slice A0_0 l0_0.length c0_0), (.slice A0_1 l0_1.length c0_1), .int .i64 a0_2, (.slice A0_3 l0_3.length c0_3)] 25 (0, 0))) ∧ Aside0 (Below w.heap.size w w'))
 case atStart => exact ⟨(0), (0), (by first | rfl | (simp; done) | (simp [*]; done)), (by first | rfl | (simp; done) | (simp [*]; done)), H', ⟨Nat.le_refl _⟩, ⟨by (with_reducible repeat (first | refine blk_drewN ?_ _ | refine blk_drew ?_ | refine blk_alloc ?_ _)); exact BK101.out⟩, ⟨by repeat (first | (with_reducible first | exact HB.out | apply below_alloc | apply pw_below_drewN | apply below_drew1 | refine below_set ?_ GE101.out) | exact HB.out)⟩⟩
 case round =>
  clear H'
  try clear c1
  try clear p2
  try clear hcz3_0
  try clear hcz3_1
  try clear hcz3_2
  try clear hcz3_3
  try clear hfz3_0
  try clear hfz3_1
  try clear hfz3_2
  try clear hfz3_3
  obtain ⟨x3_1, x13_1, rfl, rfl, HA, HK1, BK101, HB⟩ := hrel
  cases gk with
  | zero => exact absurd HA.out (by simp [wickerlaw02_Small.l0])
  | succ k1 =>
   have H := HA.out
   clear HA
   simp only [wickerlaw02_Small.l0] at H
   by_cases c4 : x13_1 < (l0_3.length : Int)
   ·rw [if_pos c4] at H
    have c4b0 : decide (x13_1 < (l0_3.length : Int)) = true := decide_eq_true c4
    clear c4
    by_cases c5 : 0 ≤ x13_1
    ·rw [if_pos c5] at H
     have c5b0 : decide (0 ≤ x13_1) = true := decide_eq_true c5
     clear c5
     by_cases c6 : x13_1 < (l0_3.length : Int)
     ·rw [if_pos c6] at H
      have c6b0 : decide (x13_1 < (l0_3.length : Int)) = true := decide_eq_true c6
      clear c6
      have H' := Aside0.mk H
      clear H
      have p102 : 0 ≤ (x13_1 : Int) := of_decide_eq_true (by first | (with_reducible assumption) | assumption)
      have q102 : x13_1 < (l0_3.length : Int) := of_decide_eq_true (by first | (with_reducible assumption) | assumption)
      obtain ⟨ad102, A102_1, c102_1, e102, hx102_0, hx102_1, hl102_1, hi102_1⟩ := at_T32 HR0_3.out x13_1 p102 q102
      cases e102
      replace hx102_0 := (HB.out.cell (World.block_lt_of_cell? w _ hx102_0)).trans hx102_0
      replace hx102_1 := (HB.out.cell (World.block_lt_of_cell? w _ hx102_1)).trans hx102_1
      have HR102_1 := Aside0.mk hi102_1
      have HC102_1 := Aside0.mk hl102_1
      clear hi102_1 hl102_1
      replace p102 := eq_true p102
      replace q102 := eq_true q102
      go_wp2_with (first | ((with_reducible refine gate_dst (N := 5) rfl ?_); (try (refine gate_guard (by rfl) ?_; dsimp only)); refine box_event ?hg (N := 5) ?hd (cs := #[.int .i64 0, .slice none 0 0]) (t := 32) ?hr ?_; (case hd => rfl); (case hg => rfl); (case hr => first | (go_simp; done) | (go_simp; rfl)); intro gb103 hg w7 hbox hb; have n0_ := Aside0.mk (blk_below (g := gb101) (o := .cells #[.slice A0_0 l0_0.length c0_0, .slice A0_1 l0_1.length c0_1, .int .i64 a0_2, .slice (some ad102) l0_3.length c0_3] 25 (0, 0)) (by (with_reducible repeat (first | refine blk_drewN ?_ _ | refine blk_drew ?_ | refine blk_alloc ?_ _)); exact BK101.out) hb); have n1_ := Aside0.mk (below_step (by repeat (first | (with_reducible first | exact HB.out | apply below_alloc | apply pw_below_drewN | apply below_drew1 | refine below_set ?_ GE101.out) | exact HB.out)) hb); have n2_ := Aside0.mk (hbox); have n3_ := Aside0.mk ((by rw [hg]; exact (below_size (by repeat (first | (with_reducible first | exact HB.out | apply below_alloc | apply pw_below_drewN | apply below_drew1 | refine below_set ?_ GE101.out) | exact HB.out))) : w.heap.size ≤ gb103)); have n4_ := Aside0.mk ((by rw [hg]; exact (below_size (by repeat (first | (with_reducible first | exact HB.out | apply below_alloc | apply pw_below_drewN | apply below_drew1 | refine below_set ?_ GE101.out) | exact HB.out))) : w.heap.size ≤ gb103)); have n5_ := Aside0.mk ((by rw [hg]; exact Nat.ne_of_lt (blk_lt (g := gb101) (o := .cells #[.slice A0_0 l0_0.length c0_0, .slice A0_1 l0_1.length c0_1, .int .i64 a0_2, .slice (some ad102) l0_3.length c0_3] 25 (0, 0)) (by (with_reducible repeat (first | refine blk_drewN ?_ _ | refine blk_drew ?_ | refine blk_alloc ?_ _)); exact BK101.out)) : gb101 ≠ gb103)); have n6_ := Aside0.mk ((by rw [hg]; exact Nat.ne_of_gt (blk_lt (g := gb101) (o := .cells #[.slice A0_0 l0_0.length c0_0, .slice A0_1 l0_1.length c0_1, .int .i64 a0_2, .slice (some ad102) l0_3.length c0_3] 25 (0, 0)) (by (with_reducible repeat (first | refine blk_drewN ?_ _ | refine blk_drew ?_ | refine blk_alloc ?_ _)); exact BK101.out)) : gb103 ≠ gb101)); clear BK101; clear HB; have BK101 := n0_; have HB := n1_; have BK103 := n2_; have GW103 := n3_; have GE103 := n4_; have NB101_103 := n5_; have NB103_101 := n6_; clear n0_ n1_ n2_ n3_ n4_ n5_ n6_; clear hb hbox hg; have hnb8 := NB103_101.out; have hnc8 := NB101_103.out; have hcz9_0 : w7.cell? ⟨gb103, 0, none⟩ = some (.int .i64 0) := (blk_cell BK103.out 0).trans rfl; have hcz9_1 : w7.cell? ⟨gb103, 1, none⟩ = some (.slice none 0 0) := (blk_cell BK103.out 1).trans rfl; have hfz9_0 := blk_frozen BK103.out 0; have hfz9_1 := blk_frozen BK103.out 1))
      go_roundg k1
      case measure => have := HK1.out; omega
      case rel => exact ⟨(wrap64 (x3_1 + (wrap64 (1 + (((rd_T32 l0_3 x13_1).f1).length : Int))))), (wrap64 (x13_1 + 1)), (by first | rfl | (simp; done) | (simp [*]; done)), (by first | rfl | (simp; done) | (simp [*]; done)), H', ⟨by have := HK1.out; omega⟩, ⟨by (with_reducible repeat (first | refine blk_drewN ?_ _ | refine blk_drew ?_ | refine blk_alloc ?_ _)); refine blk_far ?_ NB101_103.out _; (with_reducible repeat (first | refine blk_drewN ?_ _ | refine blk_drew ?_ | refine blk_alloc ?_ _)); refine blk_far ?_ NB101_103.out _; (with_reducible repeat (first | refine blk_drewN ?_ _ | refine blk_drew ?_ | refine blk_alloc ?_ _)); exact BK101.out⟩, ⟨by repeat (first | (with_reducible first | exact HB.out | apply below_alloc | apply pw_below_drewN | apply below_drew1 | refine below_set ?_ GE101.out | refine below_set ?_ GE103.out) | exact HB.out)⟩⟩
     ·rw [if_neg c6] at H
      exact absurd H (by simp)
    ·rw [if_neg c5] at H
     exact absurd H (by simp)
   ·rw [if_neg c4] at H
    have c4b0 : decide (x13_1 < (l0_3.length : Int)) = false := decide_eq_false c4
    clear c4
    have H' := Aside0.mk H
    clear H
    have hcz10_0 : wr.cell? ⟨gb101, 0, none⟩ = some (.slice A0_0 l0_0.length c0_0) := (blk_cell BK101.out 0).trans rfl
    have hcz10_1 : wr.cell? ⟨gb101, 1, none⟩ = some (.slice A0_1 l0_1.length c0_1) := (blk_cell BK101.out 1).trans rfl
    have hcz10_2 : wr.cell? ⟨gb101, 2, none⟩ = some (.int .i64 a0_2) := (blk_cell BK101.out 2).trans rfl
    have hcz10_3 : wr.cell? ⟨gb101, 3, none⟩ = some (.slice A0_3 l0_3.length c0_3) := (blk_cell BK101.out 3).trans rfl
    have hfz10_0 := blk_frozen BK101.out 0
    have hfz10_1 := blk_frozen BK101.out 1
    have hfz10_2 := blk_frozen BK101.out 2
    have hfz10_3 := blk_frozen BK101.out 3
    go_wp2
    go_loopg [3, 27] k1 (fun kq v3 v27 w' => ∃ (x3_2 : Int) (x27_2 : Int), v3 = .int .i64 x3_2 ∧ v27 = .int .i64 x27_2 ∧ Aside0 (wickerlaw02_Small.l1 kq x3_2 l0_0 (l0_0.length : Int) x27_2 l0_0 l0_1 a0_2 l0_3 = some r) ∧ Aside0 (kq ≤ k1) ∧ Aside0 (w'.heap[gb101]? = some (.cells #[(.slice A0_0 l0_0.length c0_0), (.slice A0_1 l0_1.length c0_1), .int .i64 a0_2, (.slice A0_3 l0_3.length c0_3)] 25 (0, 0))) ∧ Aside0 (Below w.heap.size w w'))
    case atStart => exact ⟨(x3_1), (0), (by first | rfl | (simp; done) | (simp [*]; done)), (by first | rfl | (simp; done) | (simp [*]; done)), H', ⟨Nat.le_refl _⟩, ⟨by (with_reducible repeat (first | refine blk_drewN ?_ _ | refine blk_drew ?_ | refine blk_alloc ?_ _)); exact BK101.out⟩, ⟨by repeat (first | (with_reducible first | exact HB.out | apply below_alloc | apply pw_below_drewN | apply below_drew1 | refine below_set ?_ GE101.out) | exact HB.out)⟩⟩
    case round =>
     clear H'
     try clear c1
     try clear p1
     try clear q1
     try clear hx1
     try clear p2
     try clear c4
     try clear c4b0
     try clear c5
     try clear c5b0
     try clear c6
     try clear c6b0
     try clear p6
     try clear c8
     try clear c10
     try clear p10
     try clear q10
     try clear hx10
     try clear hcz10_0
     try clear hcz10_1
     try clear hcz10_2
     try clear hcz10_3
     try clear hcz3_0
     try clear hcz3_1
     try clear hcz3_2
     try clear hcz3_3
     try clear hcz9_0
     try clear hcz9_1
     try clear hfz10_0
     try clear hfz10_1
     try clear hfz10_2
     try clear hfz10_3
     try clear hfz3_0
     try clear hfz3_1
     try clear hfz3_2
     try clear hfz3_3
     try clear hfz9_0
     try clear hfz9_1
     try clear hx102_0
     try clear hx102_1
     try clear p102
     try clear p2
     try clear q102
     obtain ⟨x3_2, x27_2, rfl, rfl, HA, HK2, BK101, HB⟩ := hrel
     cases gk with
     | zero => exact absurd HA.out (by simp [wickerlaw02_Small.l1])
     | succ k2 =>
      have H := HA.out
      clear HA
      simp only [wickerlaw02_Small.l1] at H
      by_cases c11 : x27_2 < (l0_0.length : Int)
      ·rw [if_pos c11] at H
       have c11b0 : decide (x27_2 < (l0_0.length : Int)) = true := decide_eq_true c11
       clear c11
       by_cases c12 : 0 ≤ x27_2
       ·rw [if_pos c12] at H
        have c12b0 : decide (0 ≤ x27_2) = true := decide_eq_true c12
        clear c12
        by_cases c13 : x27_2 < (l0_0.length : Int)
        ·rw [if_pos c13] at H
         have c13b0 : decide (x27_2 < (l0_0.length : Int)) = true := decide_eq_true c13
         clear c13
         have H' := Aside0.mk H
         clear H
         have p104 : 0 ≤ (x27_2 : Int) := of_decide_eq_true (by first | (with_reducible assumption) | assumption)
         have q104 : x27_2 < (l0_0.length : Int) := of_decide_eq_true (by first | (with_reducible assumption) | assumption)
         obtain ⟨ad104, e104, hx104_0⟩ := Kd.at_string HR0_0.out x27_2 p104 q104
         cases e104
         replace hx104_0 := (HB.out.cell (World.block_lt_of_cell? w _ hx104_0)).trans hx104_0
         replace p104 := eq_true p104
         replace q104 := eq_true q104
         go_wp2
         go_roundg k2
         case measure => have := HK1.out; have := HK2.out; omega
         case rel => exact ⟨(wrap64 (x3_2 + (wrap64 (((rdOf ByteArray.empty l0_0 x27_2).size : Int) / 16)))), (wrap64 (x27_2 + 1)), (by first | rfl | (simp; done) | (simp [*]; done)), (by first | rfl | (simp; done) | (simp [*]; done)), H', ⟨by have := HK1.out; have := HK2.out; omega⟩, ⟨by (with_reducible repeat (first | refine blk_drewN ?_ _ | refine blk_drew ?_ | refine blk_alloc ?_ _)); exact BK101.out⟩, ⟨by repeat (first | (with_reducible first | exact HB.out | apply below_alloc | apply pw_below_drewN | apply below_drew1 | refine below_set ?_ GE101.out) | exact HB.out)⟩⟩
        ·rw [if_neg c13] at H
         exact absurd H (by simp)
       ·rw [if_neg c12] at H
        exact absurd H (by simp)
      ·rw [if_neg c11] at H
       have c11b0 : decide (x27_2 < (l0_0.length : Int)) = false := decide_eq_false c11
       clear c11
       have H' := Aside0.mk H
       clear H
       have hcz14_0 : wr.cell? ⟨gb101, 0, none⟩ = some (.slice A0_0 l0_0.length c0_0) := (blk_cell BK101.out 0).trans rfl
       have hcz14_1 : wr.cell? ⟨gb101, 1, none⟩ = some (.slice A0_1 l0_1.length c0_1) := (blk_cell BK101.out 1).trans rfl
       have hcz14_2 : wr.cell? ⟨gb101, 2, none⟩ = some (.int .i64 a0_2) := (blk_cell BK101.out 2).trans rfl
       have hcz14_3 : wr.cell? ⟨gb101, 3, none⟩ = some (.slice A0_3 l0_3.length c0_3) := (blk_cell BK101.out 3).trans rfl
       have hfz14_0 := blk_frozen BK101.out 0
       have hfz14_1 := blk_frozen BK101.out 1
       have hfz14_2 := blk_frozen BK101.out 2
       have hfz14_3 := blk_frozen BK101.out 3
       go_wp2
       go_loopg [3, 40] k2 (fun kq v3 v40 w' => ∃ (x3_3 : Int) (x40_3 : Int), v3 = .int .i64 x3_3 ∧ v40 = .int .i64 x40_3 ∧ Aside0 (wickerlaw02_Small.l2 kq x3_3 l0_1 (l0_1.length : Int) x40_3 l0_0 l0_1 a0_2 l0_3 = some r) ∧ Aside0 (kq ≤ k2) ∧ Aside0 (w'.heap[gb101]? = some (.cells #[(.slice A0_0 l0_0.length c0_0), (.slice A0_1 l0_1.length c0_1), .int .i64 a0_2, (.slice A0_3 l0_3.length c0_3)] 25 (0, 0))) ∧ Aside0 (Below w.heap.size w w'))
       case atStart => exact ⟨(x3_2), (0), (by first | rfl | (simp; done) | (simp [*]; done)), (by first | rfl | (simp; done) | (simp [*]; done)), H', ⟨Nat.le_refl _⟩, ⟨by (with_reducible repeat (first | refine blk_drewN ?_ _ | refine blk_drew ?_ | refine blk_alloc ?_ _)); exact BK101.out⟩, ⟨by repeat (first | (with_reducible first | exact HB.out | apply below_alloc | apply pw_below_drewN | apply below_drew1 | refine below_set ?_ GE101.out) | exact HB.out)⟩⟩
       case round =>
        clear H'
        try clear c1
        try clear p1
        try clear q1
        try clear hx1
        try clear p2
        try clear c4
        try clear c4b0
        try clear c5
        try clear c5b0
        try clear c6
        try clear c6b0
        try clear p6
        try clear c8
        try clear c10
        try clear p10
        try clear q10
        try clear hx10
        try clear c11
        try clear c11b0
        try clear c12
        try clear c12b0
        try clear c13
        try clear c13b0
        try clear hcz10_0
        try clear hcz10_1
        try clear hcz10_2
        try clear hcz10_3
        try clear hcz14_0
        try clear hcz14_1
        try clear hcz14_2
        try clear hcz14_3
        try clear hcz3_0
        try clear hcz3_1
        try clear hcz3_2
        try clear hcz3_3
        try clear hcz9_0
        try clear hcz9_1
        try clear hfz10_0
        try clear hfz10_1
        try clear hfz10_2
        try clear hfz10_3
        try clear hfz14_0
        try clear hfz14_1
        try clear hfz14_2
        try clear hfz14_3
        try clear hfz3_0
        try clear hfz3_1
        try clear hfz3_2
        try clear hfz3_3
        try clear hfz9_0
        try clear hfz9_1
        try clear hx102_0
        try clear hx102_1
        try clear hx104_0
        try clear p1
        try clear p10
        try clear p102
        try clear p104
        try clear p2
        try clear p6
        try clear q1
        try clear q10
        try clear q102
        try clear q104
        obtain ⟨x3_3, x40_3, rfl, rfl, HA, HK3, BK101, HB⟩ := hrel
        cases gk with
        | zero => exact absurd HA.out (by simp [wickerlaw02_Small.l2])
        | succ k3 =>
         have H := HA.out
         clear HA
         simp only [wickerlaw02_Small.l2] at H
         by_cases c15 : x40_3 < (l0_1.length : Int)
         ·rw [if_pos c15] at H
          have c15b0 : decide (x40_3 < (l0_1.length : Int)) = true := decide_eq_true c15
          clear c15
          by_cases c16 : 0 ≤ x40_3
          ·rw [if_pos c16] at H
           have c16b0 : decide (0 ≤ x40_3) = true := decide_eq_true c16
           clear c16
           by_cases c17 : x40_3 < (l0_1.length : Int)
           ·rw [if_pos c17] at H
            have c17b0 : decide (x40_3 < (l0_1.length : Int)) = true := decide_eq_true c17
            clear c17
            have H' := Aside0.mk H
            clear H
            have p105 : 0 ≤ (x40_3 : Int) := of_decide_eq_true (by first | (with_reducible assumption) | assumption)
            have q105 : x40_3 < (l0_1.length : Int) := of_decide_eq_true (by first | (with_reducible assumption) | assumption)
            obtain ⟨ad105, e105, hx105_0⟩ := Kd.at_string HR0_1.out x40_3 p105 q105
            cases e105
            replace hx105_0 := (HB.out.cell (World.block_lt_of_cell? w _ hx105_0)).trans hx105_0
            replace p105 := eq_true p105
            replace q105 := eq_true q105
            go_wp2
            go_roundg k3
            case measure => have := HK1.out; have := HK2.out; have := HK3.out; omega
            case rel => exact ⟨(wrap64 (x3_3 + (wrap64 (((rdOf ByteArray.empty l0_1 x40_3).size : Int) / 16)))), (wrap64 (x40_3 + 1)), (by first | rfl | (simp; done) | (simp [*]; done)), (by first | rfl | (simp; done) | (simp [*]; done)), H', ⟨by have := HK1.out; have := HK2.out; have := HK3.out; omega⟩, ⟨by (with_reducible repeat (first | refine blk_drewN ?_ _ | refine blk_drew ?_ | refine blk_alloc ?_ _)); exact BK101.out⟩, ⟨by repeat (first | (with_reducible first | exact HB.out | apply below_alloc | apply pw_below_drewN | apply below_drew1 | refine below_set ?_ GE101.out) | exact HB.out)⟩⟩
           ·rw [if_neg c17] at H
            exact absurd H (by simp)
          ·rw [if_neg c16] at H
           exact absurd H (by simp)
         ·rw [if_neg c15] at H
          have c15b0 : decide (x40_3 < (l0_1.length : Int)) = false := decide_eq_false c15
          clear c15
          by_cases c18 : x3_3 ≤ 600
          ·rw [if_pos c18] at H
           have c18b0 : decide (x3_3 ≤ 600) = true := decide_eq_true c18
           clear c18
           by_cases c19 : (l0_0.length : Int) ≤ 60
           ·rw [if_pos c19] at H
            have c19b0 : decide ((l0_0.length : Int) ≤ 60) = true := decide_eq_true c19
            have c19b1 : decide (l0_0.length ≤ 60) = true := decide_eq_true (by omega)
            clear c19
            by_cases c20 : (l0_1.length : Int) ≤ 60
            ·rw [if_pos c20] at H
             have c20b0 : decide ((l0_1.length : Int) ≤ 60) = true := decide_eq_true c20
             have c20b1 : decide (l0_1.length ≤ 60) = true := decide_eq_true (by omega)
             clear c20
             obtain rfl := Option.some.inj H
             have hcz21_0 : wr.cell? ⟨gb101, 0, none⟩ = some (.slice A0_0 l0_0.length c0_0) := (blk_cell BK101.out 0).trans rfl
             have hcz21_1 : wr.cell? ⟨gb101, 1, none⟩ = some (.slice A0_1 l0_1.length c0_1) := (blk_cell BK101.out 1).trans rfl
             have hcz21_2 : wr.cell? ⟨gb101, 2, none⟩ = some (.int .i64 a0_2) := (blk_cell BK101.out 2).trans rfl
             have hcz21_3 : wr.cell? ⟨gb101, 3, none⟩ = some (.slice A0_3 l0_3.length c0_3) := (blk_cell BK101.out 3).trans rfl
             have hfz21_0 := blk_frozen BK101.out 0
             have hfz21_1 := blk_frozen BK101.out 1
             have hfz21_2 := blk_frozen BK101.out 2
             have hfz21_3 := blk_frozen BK101.out 3
             go_wp2
             go_ret
             exact ⟨by first | rfl | (simp [errW_none, errW_some] <;> rfl) | (simp [*, errW_none, errW_some] <;> rfl), by repeat (first | (with_reducible first | exact HB.out | apply below_alloc | apply pw_below_drewN | apply below_drew1 | refine below_set ?_ GE101.out) | exact HB.out)⟩
            ·rw [if_neg c20] at H
             have c20b0 : decide ((l0_1.length : Int) ≤ 60) = false := decide_eq_false c20
             have c20b1 : decide (l0_1.length ≤ 60) = false := decide_eq_false (by omega)
             clear c20
             obtain rfl := Option.some.inj H
             have hcz22_0 : wr.cell? ⟨gb101, 0, none⟩ = some (.slice A0_0 l0_0.length c0_0) := (blk_cell BK101.out 0).trans rfl
             have hcz22_1 : wr.cell? ⟨gb101, 1, none⟩ = some (.slice A0_1 l0_1.length c0_1) := (blk_cell BK101.out 1).trans rfl
             have hcz22_2 : wr.cell? ⟨gb101, 2, none⟩ = some (.int .i64 a0_2) := (blk_cell BK101.out 2).trans rfl
             have hcz22_3 : wr.cell? ⟨gb101, 3, none⟩ = some (.slice A0_3 l0_3.length c0_3) := (blk_cell BK101.out 3).trans rfl
             have hfz22_0 := blk_frozen BK101.out 0
             have hfz22_1 := blk_frozen BK101.out 1
             have hfz22_2 := blk_frozen BK101.out 2
             have hfz22_3 := blk_frozen BK101.out 3
             go_wp2
             go_ret
             exact ⟨by first | rfl | (simp [errW_none, errW_some] <;> rfl) | (simp [*, errW_none, errW_some] <;> rfl), by repeat (first | (with_reducible first | exact HB.out | apply below_alloc | apply pw_below_drewN | apply below_drew1 | refine below_set ?_ GE101.out) | exact HB.out)⟩
           ·rw [if_neg c19] at H
            have c19b0 : decide ((l0_0.length : Int) ≤ 60) = false := decide_eq_false c19
            have c19b1 : decide (l0_0.length ≤ 60) = false := decide_eq_false (by omega)
            clear c19
            obtain rfl := Option.some.inj H
            have hcz23_0 : wr.cell? ⟨gb101, 0, none⟩ = some (.slice A0_0 l0_0.length c0_0) := (blk_cell BK101.out 0).trans rfl
            have hcz23_1 : wr.cell? ⟨gb101, 1, none⟩ = some (.slice A0_1 l0_1.length c0_1) := (blk_cell BK101.out 1).trans rfl
            have hcz23_2 : wr.cell? ⟨gb101, 2, none⟩ = some (.int .i64 a0_2) := (blk_cell BK101.out 2).trans rfl
            have hcz23_3 : wr.cell? ⟨gb101, 3, none⟩ = some (.slice A0_3 l0_3.length c0_3) := (blk_cell BK101.out 3).trans rfl
            have hfz23_0 := blk_frozen BK101.out 0
            have hfz23_1 := blk_frozen BK101.out 1
            have hfz23_2 := blk_frozen BK101.out 2
            have hfz23_3 := blk_frozen BK101.out 3
            go_wp2
            go_ret
            exact ⟨by first | rfl | (simp [errW_none, errW_some] <;> rfl) | (simp [*, errW_none, errW_some] <;> rfl), by repeat (first | (with_reducible first | exact HB.out | apply below_alloc | apply pw_below_drewN | apply below_drew1 | refine below_set ?_ GE101.out) | exact HB.out)⟩
          ·rw [if_neg c18] at H
           have c18b0 : decide (x3_3 ≤ 600) = false := decide_eq_false c18
           clear c18
           obtain rfl := Option.some.inj H
           go_wp2
           go_ret
           exact ⟨by first | rfl | (simp [errW_none, errW_some] <;> rfl) | (simp [*, errW_none, errW_some] <;> rfl), by repeat (first | (with_reducible first | exact HB.out | apply below_alloc | apply pw_below_drewN | apply below_drew1 | refine below_set ?_ GE101.out) | exact HB.out)⟩
def wickerlaw02_OfRule.l0 : Nat → List Int → Int → Int → Int → List Int → Option (Int × List Int)
 | 0, _, _, _, _, _ => none
 | k + 1, x10, x11, x12, x104000, x104001 => if x12 < x11 then (if 0 ≤ x12 then (if x12 < (x10.length : Int) then (if x104001.length < 17592186044416 then (wickerlaw02_OfRule.l0 k x10 x11 (wrap64 (x12 + 1)) x104000 (x104001 ++ [rd x10 x12])) else (none)) else (none)) else (none)) else (some (x104000, x104001))
def wickerlaw02_OfRule.f (k : Nat) (a0_0 : Int) (l0_1 : List Int) : Option (Int × List Int) := wickerlaw02_OfRule.l0 k l0_1 (l0_1.length : Int) 0 a0_0 ([] : List Int)
set_option maxHeartbeats 8000000 in
set_option maxRecDepth 100000 in
theorem wickerlaw02_OfRule.calls (k : Nat) (a0_0 : Int) (A0_1 : Option Addr) (c0_1 : Nat) (l0_1 : List Int) (r1 : Int) (r2 : List Int) (w : World) (hr0_1 : Kd.C (Kd.int .i64) w A0_1 l0_1.length l0_1) (hc0_1 : l0_1.length ≤ c0_1) (h : wickerlaw02_OfRule.f k a0_0 l0_1 = some (r1, r2)) :
  Calls Tryd.prog 41 #[.agg #[.int .i64 a0_0, .slice A0_1 l0_1.length c0_1]] w fun e w' => ∃ v1_ : Value, e = .returned (.agg #[.int .i64 r1, v1_]) ∧ Kd.R (Kd.int .i64) 3 w' w.heap.size (fun _ => True) v1_ r2 ∧ Below w.heap.size w w' := by
 have hu32 := Tryd.underlying32
 have hu87 := Tryd.underlying87
 have HR0_1 := Aside0.mk hr0_1
 have HC0_1 := Aside0.mk hc0_1
 clear hr0_1 hc0_1
 have HB := Aside0.mk (Below.refl w.heap.size w)
 have H : (wickerlaw02_OfRule.l0 k l0_1 (l0_1.length : Int) 0 a0_0 ([] : List Int)) = some (r1, r2) := h
 clear h
 have H' := Aside0.mk H
 clear H
 go_enter Tryd.func41, Tryd.ntmps41
 go_wp2_with (first | ((with_reducible refine gate_dst (N := 1) rfl ?_); refine box_event ?hg (N := 1) ?hd (cs := #[.int .i64 a0_0, .slice A0_1 l0_1.length c0_1]) (t := 32) ?hr ?_; (case hd => rfl); (case hg => rfl); (case hr => first | (go_simp; done) | (go_simp; rfl)); intro gb101 hg w2 hbox hb; have n0_ := Aside0.mk (below_step (by repeat (first | (with_reducible first | exact HB.out | apply below_alloc | apply pw_below_drewN | apply below_drew1) | exact HB.out)) hb); have n1_ := Aside0.mk (hbox); have n2_ := Aside0.mk ((by rw [hg]; exact (below_size (by repeat (first | (with_reducible first | exact HB.out | apply below_alloc | apply pw_below_drewN | apply below_drew1) | exact HB.out))) : w.heap.size ≤ gb101)); have n3_ := Aside0.mk ((by rw [hg]; exact (below_size (by repeat (first | (with_reducible first | exact HB.out | apply below_alloc | apply pw_below_drewN | apply below_drew1) | exact HB.out))) : w.heap.size ≤ gb101)); clear HB; have HB := n0_; have BK101 := n1_; have GW101 := n2_; have GE101 := n3_; clear n0_ n1_ n2_ n3_; clear hb hbox hg) | ((with_reducible refine gate_dst (N := 2) rfl ?_); refine box_event ?hg (N := 2) ?hd (cs := #[.int .i64 0, .slice none 0 0]) (t := 87) ?hr ?_; (case hd => rfl); (case hg => rfl); (case hr => first | (go_simp; done) | (go_simp; rfl)); intro gb102 hg w3 hbox hb; have n0_ := Aside0.mk (blk_below (g := gb101) (o := .cells #[.int .i64 a0_0, .slice A0_1 l0_1.length c0_1] 32 (0, 0)) (by (with_reducible repeat (first | refine blk_drewN ?_ _ | refine blk_drew ?_ | refine blk_alloc ?_ _)); exact BK101.out) hb); have n1_ := Aside0.mk (below_step (by repeat (first | (with_reducible first | exact HB.out | apply below_alloc | apply pw_below_drewN | apply below_drew1 | refine below_set ?_ GE101.out) | exact HB.out)) hb); have n2_ := Aside0.mk (hbox); have n3_ := Aside0.mk ((by rw [hg]; exact (below_size (by repeat (first | (with_reducible first | exact HB.out | apply below_alloc | apply pw_below_drewN | apply below_drew1 | refine below_set ?_ GE101.out) | exact HB.out))) : w.heap.size ≤ gb102)); have n4_ := Aside0.mk ((by rw [hg]; exact (below_size (by repeat (first | (with_reducible first | exact HB.out | apply below_alloc | apply pw_below_drewN | apply below_drew1 | refine below_set ?_ GE101.out) | exact HB.out))) : w.heap.size ≤ gb102)); have n5_ := Aside0.mk ((by rw [hg]; exact Nat.ne_of_lt (blk_lt (g := gb101) (o := .cells #[.int .i64 a0_0, .slice A0_1 l0_1.length c0_1] 32 (0, 0)) (by (with_reducible repeat (first | refine blk_drewN ?_ _ | refine blk_drew ?_ | refine blk_alloc ?_ _)); exact BK101.out)) : gb101 ≠ gb102)); have n6_ := Aside0.mk ((by rw [hg]; exact Nat.ne_of_gt (blk_lt (g := gb101) (o := .cells #[.int .i64 a0_0, .slice A0_1 l0_1.length c0_1] 32 (0, 0)) (by (with_reducible repeat (first | refine blk_drewN ?_ _ | refine blk_drew ?_ | refine blk_alloc ?_ _)); exact BK101.out)) : gb102 ≠ gb101)); clear BK101; clear HB; have BK101 := n0_; have HB := n1_; have BK102 := n2_; have GW102 := n3_; have GE102 := n4_; have NB101_102 := n5_; have NB102_101 := n6_; clear n0_ n1_ n2_ n3_ n4_ n5_ n6_; clear hb hbox hg; have hnb4 := NB101_102.out; have hnc4 := NB102_101.out; have hcz5_0 : w3.cell? ⟨gb101, 0, none⟩ = some (.int .i64 a0_0) := (blk_cell BK101.out 0).trans rfl; have hcz5_1 : w3.cell? ⟨gb101, 1, none⟩ = some (.slice A0_1 l0_1.length c0_1) := (blk_cell BK101.out 1).trans rfl; have hfz5_0 := blk_frozen BK101.out 0; have hfz5_1 := blk_frozen BK101.out 1) | ((with_reducible refine gate_dst (N := 3) rfl ?_); refine box_event ?hg (N := 3) ?hd (cs := #[.int .i64 0, .slice none 0 0]) (t := 87) ?hr ?_; (case hd => rfl); (case hg => rfl); (case hr => first | (go_simp; done) | (go_simp; rfl)); intro gb103 hg w6 hbox hb; have n0_ := Aside0.mk (blk_below (g := gb101) (o := .cells #[.int .i64 a0_0, .slice A0_1 l0_1.length c0_1] 32 (0, 0)) (by (with_reducible repeat (first | refine blk_drewN ?_ _ | refine blk_drew ?_ | refine blk_alloc ?_ _)); exact BK101.out) hb); have n1_ := Aside0.mk (blk_below (g := gb102) (o := .cells #[.int .i64 0, .slice none 0 0] 87 (0, 0)) (by (with_reducible repeat (first | refine blk_drewN ?_ _ | refine blk_drew ?_ | refine blk_alloc ?_ _)); exact BK102.out) hb); have n2_ := Aside0.mk (below_step (by repeat (first | (with_reducible first | exact HB.out | apply below_alloc | apply pw_below_drewN | apply below_drew1 | refine below_set ?_ GE101.out | refine below_set ?_ GE102.out) | exact HB.out)) hb); have n3_ := Aside0.mk (hbox); have n4_ := Aside0.mk ((by rw [hg]; exact (below_size (by repeat (first | (with_reducible first | exact HB.out | apply below_alloc | apply pw_below_drewN | apply below_drew1 | refine below_set ?_ GE101.out | refine below_set ?_ GE102.out) | exact HB.out))) : w.heap.size ≤ gb103)); have n5_ := Aside0.mk ((by rw [hg]; exact (below_size (by repeat (first | (with_reducible first | exact HB.out | apply below_alloc | apply pw_below_drewN | apply below_drew1 | refine below_set ?_ GE101.out | refine below_set ?_ GE102.out) | exact HB.out))) : w.heap.size ≤ gb103)); have n6_ := Aside0.mk ((by rw [hg]; exact Nat.ne_of_lt (blk_lt (g := gb101) (o := .cells #[.int .i64 a0_0, .slice A0_1 l0_1.length c0_1] 32 (0, 0)) (by (with_reducible repeat (first | refine blk_drewN ?_ _ | refine blk_drew ?_ | refine blk_alloc ?_ _)); exact BK101.out)) : gb101 ≠ gb103)); have n7_ := Aside0.mk ((by rw [hg]; exact Nat.ne_of_gt (blk_lt (g := gb101) (o := .cells #[.int .i64 a0_0, .slice A0_1 l0_1.length c0_1] 32 (0, 0)) (by (with_reducible repeat (first | refine blk_drewN ?_ _ | refine blk_drew ?_ | refine blk_alloc ?_ _)); exact BK101.out)) : gb103 ≠ gb101)); have n8_ := Aside0.mk ((by rw [hg]; exact Nat.ne_of_lt (blk_lt (g := gb102) (o := .cells #[.int .i64 0, .slice none 0 0] 87 (0, 0)) (by (with_reducible repeat (first | refine blk_drewN ?_ _ | refine blk_drew ?_ | refine blk_alloc ?_ _)); exact BK102.out)) : gb102 ≠ gb103)); have n9_ := Aside0.mk ((by rw [hg]; exact Nat.ne_of_gt (blk_lt (g := gb102) (o := .cells #[.int .i64 0, .slice none 0 0] 87 (0, 0)) (by (with_reducible repeat (first | refine blk_drewN ?_ _ | refine blk_drew ?_ | refine blk_alloc ?_ _)); exact BK102.out)) : gb103 ≠ gb102)); clear BK101; clear BK102; clear HB; have BK101 := n0_; have BK102 := n1_; have HB := n2_; have BK103 := n3_; have GW103 := n4_; have GE103 := n5_; have NB101_103 := n6_; have NB103_101 := n7_; have NB102_103 := n8_; have NB103_102 := n9_; clear n0_ n1_ n2_ n3_ n4_ n5_ n6_ n7_ n8_ n9_; clear hb hbox hg; have hnb7 := NB103_101.out; have hnc7 := NB101_103.out; have hnb8 := NB103_102.out; have hnc8 := NB102_103.out; have hcz9_0 : w6.cell? ⟨gb103, 0, none⟩ = some (.int .i64 0) := (blk_cell BK103.out 0).trans rfl; have hcz9_1 : w6.cell? ⟨gb103, 1, none⟩ = some (.slice none 0 0) := (blk_cell BK103.out 1).trans rfl; have hfz9_0 := blk_frozen BK103.out 0; have hfz9_1 := blk_frozen BK103.out 1; have hcz10_0 : w6.cell? ⟨gb101, 0, none⟩ = some (.int .i64 a0_0) := (blk_cell BK101.out 0).trans rfl; have hcz10_1 : w6.cell? ⟨gb101, 1, none⟩ = some (.slice A0_1 l0_1.length c0_1) := (blk_cell BK101.out 1).trans rfl; have hfz10_0 := blk_frozen BK101.out 0; have hfz10_1 := blk_frozen BK101.out 1))
 go_loopg [12] k (fun kq v12 w' => ∃ (x12_1 : Int) (x104001_1 : List Int) (u104001 : Value), v12 = .int .i64 x12_1 ∧ Aside0 (wickerlaw02_OfRule.l0 kq l0_1 (l0_1.length : Int) x12_1 a0_0 x104001_1 = some (r1, r2)) ∧ Aside0 (kq ≤ k) ∧ Aside0 (Kd.R (Kd.int .i64) 3 w' w.heap.size (fun _ => True) u104001 x104001_1) ∧ Aside0 (w'.heap[gb101]? = some (.cells #[.int .i64 a0_0, (.slice A0_1 l0_1.length c0_1)] 32 (0, 0))) ∧ Aside0 (w'.heap[gb102]? = some (.cells #[.int .i64 0, (.slice none 0 0)] 87 (0, 0))) ∧ Aside0 (w'.heap[gb103]? = some (.cells #[.int .i64 a0_0, u104001] 87 (0, 0))) ∧ Aside0 (Below w.heap.size w w'))
 case atStart => exact ⟨(0), (([] : List Int)), (.slice none 0 0), (by first | rfl | (simp; done) | (simp [*]; done)), H', ⟨Nat.le_refl _⟩, ⟨by first | exact Kd.R_nil _ _ _ _ _ | exact Kd.N_nil _ _ _ _ _ | exact Kd.V_nil _ _ _ _ _ | exact Kd.Q_nil _ _ _ _ _ | exact Kd.S_nil _ _ _ _ _⟩, ⟨by (with_reducible repeat (first | refine blk_drewN ?_ _ | refine blk_drew ?_ | refine blk_alloc ?_ _)); refine blk_far ?_ NB101_103.out _; (with_reducible repeat (first | refine blk_drewN ?_ _ | refine blk_drew ?_ | refine blk_alloc ?_ _)); refine blk_far ?_ NB101_103.out _; (with_reducible repeat (first | refine blk_drewN ?_ _ | refine blk_drew ?_ | refine blk_alloc ?_ _)); exact BK101.out⟩, ⟨by (with_reducible repeat (first | refine blk_drewN ?_ _ | refine blk_drew ?_ | refine blk_alloc ?_ _)); refine blk_far ?_ NB102_103.out _; (with_reducible repeat (first | refine blk_drewN ?_ _ | refine blk_drew ?_ | refine blk_alloc ?_ _)); refine blk_far ?_ NB102_103.out _; (with_reducible repeat (first | refine blk_drewN ?_ _ | refine blk_drew ?_ | refine blk_alloc ?_ _)); exact BK102.out⟩, ⟨by (with_reducible repeat (first | refine blk_drewN ?_ _ | refine blk_drew ?_ | refine blk_alloc ?_ _)); refine blk_put (cs := #[.int .i64 a0_0, .slice none 0 0]) ?_ 1 _ rfl; (with_reducible repeat (first | refine blk_drewN ?_ _ | refine blk_drew ?_ | refine blk_alloc ?_ _)); refine blk_put (cs := #[.int .i64 0, .slice none 0 0]) ?_ 0 _ rfl; (with_reducible repeat (first | refine blk_drewN ?_ _ | refine blk_drew ?_ | refine blk_alloc ?_ _)); exact BK103.out⟩, ⟨by repeat (first | (with_reducible first | exact HB.out | apply below_alloc | apply pw_below_drewN | apply below_drew1 | refine below_set ?_ GE101.out | refine below_set ?_ GE102.out | refine below_set ?_ GE103.out) | exact HB.out)⟩⟩
 case round =>
  clear H'
  try clear p2
  try clear c4
  try clear c7
  try clear c8
  try clear hcz10_0
  try clear hcz10_1
  try clear hcz5_0
  try clear hcz5_1
  try clear hcz9_0
  try clear hcz9_1
  try clear hfz10_0
  try clear hfz10_1
  try clear hfz5_0
  try clear hfz5_1
  try clear hfz9_0
  try clear hfz9_1
  obtain ⟨x12_1, x104001_1, u104001, rfl, HA, HK1, HO_104001, BK101, BK102, BK103, HB⟩ := hrel
  cases gk with
  | zero => exact absurd HA.out (by simp [wickerlaw02_OfRule.l0])
  | succ k1 =>
   have H := HA.out
   clear HA
   simp only [wickerlaw02_OfRule.l0] at H
   by_cases c11 : x12_1 < (l0_1.length : Int)
   ·rw [if_pos c11] at H
    have c11b0 : decide (x12_1 < (l0_1.length : Int)) = true := decide_eq_true c11
    clear c11
    by_cases c12 : 0 ≤ x12_1
    ·rw [if_pos c12] at H
     have c12b0 : decide (0 ≤ x12_1) = true := decide_eq_true c12
     clear c12
     by_cases c13 : x12_1 < (l0_1.length : Int)
     ·rw [if_pos c13] at H
      have c13b0 : decide (x12_1 < (l0_1.length : Int)) = true := decide_eq_true c13
      clear c13
      by_cases c14 : x104001_1.length < 17592186044416
      ·rw [if_pos c14] at H
       have LMc14 := Aside0.mk c14
       clear c14
       obtain ⟨y105, hy105⟩ : ∃ y_ : List Int, y_ = (x104001_1 ++ [rd l0_1 x12_1]) := ⟨_, rfl⟩
       replace H : (wickerlaw02_OfRule.l0 k1 l0_1 (l0_1.length : Int) (wrap64 (x12_1 + 1)) a0_0 y105) = some (r1, r2) := by first | (rw [hy105]; with_reducible exact H) | (have H2_ := (Option.bind_some _ _).symm.trans H; rw [hy105]; with_reducible exact H2_) | (have H2_ := (Option.bind_some _ _).symm.trans H; with_reducible exact H2_) | with_reducible exact H | (rw [hy105]; exact H) | exact H
       have Ny105 := Aside0.mk hy105
       clear hy105
       have H' := Aside0.mk H
       clear H
       have p104 : 0 ≤ (x12_1 : Int) := of_decide_eq_true (by first | (with_reducible assumption) | assumption)
       have q104 : x12_1 < (l0_1.length : Int) := of_decide_eq_true (by first | (with_reducible assumption) | assumption)
       obtain ⟨ad104, e104, hx104_0⟩ := Kd.at_int HR0_1.out x12_1 p104 q104
       cases e104
       replace hx104_0 := (HB.out.cell (World.block_lt_of_cell? w _ hx104_0)).trans hx104_0
       replace p104 := eq_true p104
       replace q104 := eq_true q104
       have hnb15 := NB103_101.out
       have hnc15 := NB101_103.out
       have hnb16 := NB103_102.out
       have hnc16 := NB102_103.out
       have hcz17_0 : wr.cell? ⟨gb103, 0, none⟩ = some (.int .i64 a0_0) := (blk_cell BK103.out 0).trans rfl
       have hcz17_1 : wr.cell? ⟨gb103, 1, none⟩ = some (u104001) := (blk_cell BK103.out 1).trans rfl
       have hfz17_0 := blk_frozen BK103.out 0
       have hfz17_1 := blk_frozen BK103.out 1
       go_wp2_with (first | ((with_reducible refine gate_builtin (b := .append) (xs := #[.tmp 17, .tmp 19]) rfl ?_); at_builtin; refine Kd.R_append (Kd.int .i64) (w0 := w) w.heap.size rfl (.tmp 17) (.tmp 19) 71 3 (.int .i64 0) 8 rfl Tryd.underlying71 info3 rfl (by decide) (by omega) u104001 x104001_1 (rd l0_1 x12_1) [.int .i64 (rd l0_1 x12_1)] (fun _ => True) (fun _ => False) rfl rfl ?aP (fun _ hk => hk.elim) ?aF ?aO ?aB ?aS ?aL ?_; (case aP => exact rfl); (case aB => exact (by repeat (first | (with_reducible first | exact HB.out | apply below_alloc | apply pw_below_drewN | apply below_drew1 | refine below_set ?_ GE101.out | refine below_set ?_ GE102.out | refine below_set ?_ GE103.out) | exact HB.out))); (case aF => exact (fun _ _ => trivial)); (case aO => exact (by (with_reducible repeat (first | apply Kd.R_alloc | apply Kd.R_drewN | apply Kd.R_drew)); exact HO_104001.out)); (case aS => exact (below_size (by repeat (first | (with_reducible first | exact HB.out | apply below_alloc | apply pw_below_drewN | apply below_drew1 | refine below_set ?_ GE101.out | refine below_set ?_ GE102.out | refine below_set ?_ GE103.out) | exact HB.out)))); (case aL => have := LMc14.out; omega); intro v106 w18 ho hb hg hat; rw [← Ny105.out] at ho; have n0_ := Aside0.mk (blk_grown (g := gb101) (o := .cells #[.int .i64 a0_0, .slice (some ad104) l0_1.length c0_1] 32 (0, 0)) (by (with_reducible repeat (first | refine blk_drewN ?_ _ | refine blk_drew ?_ | refine blk_alloc ?_ _)); exact BK101.out) hg (Kd.R_ne HO_104001.out BK101.out (by decide))); have n1_ := Aside0.mk (blk_grown (g := gb102) (o := .cells #[.int .i64 0, .slice none 0 0] 87 (0, 0)) (by (with_reducible repeat (first | refine blk_drewN ?_ _ | refine blk_drew ?_ | refine blk_alloc ?_ _)); exact BK102.out) hg (Kd.R_ne HO_104001.out BK102.out (by decide))); have n2_ := Aside0.mk (blk_grown (g := gb103) (o := .cells #[.int .i64 a0_0, u104001] 87 (0, 0)) (by (with_reducible repeat (first | refine blk_drewN ?_ _ | refine blk_drew ?_ | refine blk_alloc ?_ _)); exact BK103.out) hg (Kd.R_ne HO_104001.out BK103.out (by decide))); have n3_ := Aside0.mk (hb); have n4_ := Aside0.mk (ho); clear BK101; clear BK102; clear BK103; clear HB; clear HO_104001; have BK101 := n0_; have BK102 := n1_; have BK103 := n2_; have HB := n3_; have HO107 := n4_; clear n0_ n1_ n2_ n3_ n4_; clear ho hb hg hat; obtain ⟨Ao19, co19, eo19⟩ := Kd.R_slice HO107.out; subst eo19; have hcz20_0 : w18.cell? ⟨gb103, 0, none⟩ = some (.int .i64 a0_0) := (blk_cell BK103.out 0).trans rfl; have hcz20_1 : w18.cell? ⟨gb103, 1, none⟩ = some (u104001) := (blk_cell BK103.out 1).trans rfl; have hfz20_0 := blk_frozen BK103.out 0; have hfz20_1 := blk_frozen BK103.out 1))
       go_roundg k1
       case measure => have := HK1.out; omega
       case rel => exact ⟨(wrap64 (x12_1 + 1)), (y105), (.slice Ao19 y105.length co19), (by first | rfl | (simp; done) | (simp [*]; done)), H', ⟨by have := HK1.out; omega⟩, ⟨by (with_reducible repeat (first | apply Kd.R_alloc | apply Kd.R_drewN | apply Kd.R_drew)); exact Kd.R_mono (Kd.R_far (p := ⟨gb103, 1, none⟩) (Kd.R_types HO107.out BK103.out (by decide)) (fun _ hk => hk.2) (.slice Ao19 y105.length co19)) (fun _ hk => trivial)⟩, ⟨by (with_reducible repeat (first | refine blk_drewN ?_ _ | refine blk_drew ?_ | refine blk_alloc ?_ _)); refine blk_far ?_ NB101_103.out _; (with_reducible repeat (first | refine blk_drewN ?_ _ | refine blk_drew ?_ | refine blk_alloc ?_ _)); exact BK101.out⟩, ⟨by (with_reducible repeat (first | refine blk_drewN ?_ _ | refine blk_drew ?_ | refine blk_alloc ?_ _)); refine blk_far ?_ NB102_103.out _; (with_reducible repeat (first | refine blk_drewN ?_ _ | refine blk_drew ?_ | refine blk_alloc ?_ _)); exact BK102.out⟩, ⟨by (with_reducible repeat (first | refine blk_drewN ?_ _ | refine blk_drew ?_ | refine blk_alloc ?_ _)); refine blk_put (cs := #[.int .i64 a0_0, u104001]) ?_ 1 _ rfl; (with_reducible repeat (first | refine blk_drewN ?_ _ | refine blk_drew ?_ | refine blk_alloc ?_ _)); exact BK103.out⟩, ⟨by repeat (first | (with_reducible first | exact HB.out | apply below_alloc | apply pw_below_drewN | apply below_drew1 | refine below_set ?_ GE101.out | refine below_set ?_ GE102.out | refine below_set ?_ GE103.out) | exact HB.out)⟩⟩
      ·rw [if_neg c14] at H
       exact absurd H (by simp)
     ·rw [if_neg c13] at H
      exact absurd H (by simp)
    ·rw [if_neg c12] at H
     exact absurd H (by simp)
   ·rw [if_neg c11] at H
    have c11b0 : decide (x12_1 < (l0_1.length : Int)) = false := decide_eq_false c11
    clear c11
    simp only [Option.some.injEq, Prod.mk.injEq] at H
    obtain ⟨rfl, rfl⟩ := H
    have hnb21 := NB103_101.out
    have hnc21 := NB101_103.out
    have hnb22 := NB103_102.out
    have hnc22 := NB102_103.out
    have hcz23_0 : wr.cell? ⟨gb103, 0, none⟩ = some (.int .i64 a0_0) := (blk_cell BK103.out 0).trans rfl
    have hcz23_1 : wr.cell? ⟨gb103, 1, none⟩ = some (u104001) := (blk_cell BK103.out 1).trans rfl
    have hfz23_0 := blk_frozen BK103.out 0
    have hfz23_1 := blk_frozen BK103.out 1
    have hnb24 := NB102_101.out
    have hnc24 := NB101_102.out
    have hcz25_0 : wr.cell? ⟨gb102, 0, none⟩ = some (.int .i64 0) := (blk_cell BK102.out 0).trans rfl
    have hcz25_1 : wr.cell? ⟨gb102, 1, none⟩ = some (.slice none 0 0) := (blk_cell BK102.out 1).trans rfl
    have hfz25_0 := blk_frozen BK102.out 0
    have hfz25_1 := blk_frozen BK102.out 1
    obtain ⟨Ao26, co26, eo26⟩ := Kd.R_slice HO_104001.out
    subst eo26
    go_wp2
    refine bodyPost_ret (results_cell_row rfl _ _ gb102 87 #[.int .i64 a0_0, .slice Ao26 x104001_1.length co26] (0, 0) _ rfl (by (with_reducible repeat (first | refine blk_drewN ?_ _ | refine blk_drew ?_ | refine blk_alloc ?_ _)); refine blk_put (cs := #[.int .i64 a0_0, .slice none 0 0]) ?_ 1 _ rfl; (with_reducible repeat (first | refine blk_drewN ?_ _ | refine blk_drew ?_ | refine blk_alloc ?_ _)); refine blk_put (cs := #[.int .i64 0, .slice none 0 0]) ?_ 0 _ rfl; (with_reducible repeat (first | refine blk_drewN ?_ _ | refine blk_drew ?_ | refine blk_alloc ?_ _)); exact BK102.out) Tryd.underlying87 rfl (by kernel_rfl)) rfl ?_
    exact ⟨_, by first | rfl | (simp [errW_none, errW_some] <;> rfl) | (simp [*, errW_none, errW_some] <;> rfl), by (with_reducible repeat (first | apply Kd.R_alloc | apply Kd.R_drewN | apply Kd.R_drew)); exact Kd.R_mono (Kd.R_far (p := ⟨gb102, 1, none⟩) (Kd.R_far (p := ⟨gb102, 0, none⟩) (Kd.R_types HO_104001.out BK102.out (by decide)) (fun _ hk => hk.2) (.int .i64 a0_0)) (fun _ hk => hk.2) (.slice Ao26 x104001_1.length co26)) (fun _ hk => trivial), by repeat (first | (with_reducible first | exact HB.out | apply below_alloc | apply pw_below_drewN | apply below_drew1 | refine below_set ?_ GE101.out | refine below_set ?_ GE102.out | refine below_set ?_ GE103.out) | exact HB.out)⟩
def wickerlaw02_Example.f  : Option (List ByteArray × List ByteArray × Int × (List (S32))) := some ((([(⟨#[83]⟩ : ByteArray)] : List ByteArray)), (([(⟨#[97]⟩ : ByteArray)] : List ByteArray)), 0, (([(⟨0, (([(-1), 0] : List Int))⟩ : S32), (⟨0, ([] : List Int)⟩ : S32)] : List (S32))))
set_option maxHeartbeats 8000000 in
set_option maxRecDepth 100000 in
theorem wickerlaw02_Example.calls  (r1 : List ByteArray) (r2 : List ByteArray) (r3 : Int) (r4 : List (S32)) (w : World) (h : wickerlaw02_Example.f  = some (r1, r2, r3, r4)) :
  Calls Tryd.prog 85 #[] w fun e w' => ∃ v0_ v1_ v3_ : Value, e = .returned (.agg #[v0_, v1_, .int .i64 r3, v3_]) ∧ Kd.R Kd.string 9 w' w.heap.size (fun k_ => (w.heap.size ≤ k_) ∧ some k_ ≠ (v1_ : Value).ownBlock) v0_ r1 ∧ Kd.R Kd.string 9 w' w.heap.size (fun k_ => (w.heap.size ≤ k_) ∧ some k_ ≠ (v0_ : Value).ownBlock) v1_ r2 ∧ Kd.N k32 32 w' w.heap.size (fun k_ => (w.heap.size ≤ k_) ∧ some k_ ≠ (v0_ : Value).ownBlock ∧ some k_ ≠ (v1_ : Value).ownBlock) v3_ r4 ∧ Below w.heap.size w w' := by
 have hu25 := Tryd.underlying25
 have hu32 := Tryd.underlying32
 have HB := Aside0.mk (Below.refl w.heap.size w)
 have H : (some ((([(⟨#[83]⟩ : ByteArray)] : List ByteArray)), (([(⟨#[97]⟩ : ByteArray)] : List ByteArray)), 0, (([(⟨0, (([(-1), 0] : List Int))⟩ : S32), (⟨0, ([] : List Int)⟩ : S32)] : List (S32))))) = some (r1, r2, r3, r4) := h
 clear h
 obtain ⟨y102, hy102⟩ : ∃ y_ : List ByteArray, y_ = (([(⟨#[83]⟩ : ByteArray)] : List ByteArray)) := ⟨_, rfl⟩
 replace H : (some (y102, (([(⟨#[97]⟩ : ByteArray)] : List ByteArray)), 0, (([(⟨0, (([(-1), 0] : List Int))⟩ : S32), (⟨0, ([] : List Int)⟩ : S32)] : List (S32))))) = some (r1, r2, r3, r4) := by first | (rw [hy102]; with_reducible exact H) | (have H2_ := (Option.bind_some _ _).symm.trans H; rw [hy102]; with_reducible exact H2_) | (have H2_ := (Option.bind_some _ _).symm.trans H; with_reducible exact H2_) | with_reducible exact H | (rw [hy102]; exact H) | exact H
 have Ny102 := Aside0.mk hy102
 clear hy102
 obtain ⟨y105, hy105⟩ : ∃ y_ : List ByteArray, y_ = (([(⟨#[97]⟩ : ByteArray)] : List ByteArray)) := ⟨_, rfl⟩
 replace H : (some (y102, y105, 0, (([(⟨0, (([(-1), 0] : List Int))⟩ : S32), (⟨0, ([] : List Int)⟩ : S32)] : List (S32))))) = some (r1, r2, r3, r4) := by first | (rw [hy105]; with_reducible exact H) | (have H2_ := (Option.bind_some _ _).symm.trans H; rw [hy105]; with_reducible exact H2_) | (have H2_ := (Option.bind_some _ _).symm.trans H; with_reducible exact H2_) | with_reducible exact H | (rw [hy105]; exact H) | exact H
 have Ny105 := Aside0.mk hy105
 clear hy105
 obtain ⟨y108, hy108⟩ : ∃ y_ : List Int, y_ = (([(-1), 0] : List Int)) := ⟨_, rfl⟩
 replace H : (some (y102, y105, 0, (([(⟨0, y108⟩ : S32), (⟨0, ([] : List Int)⟩ : S32)] : List (S32))))) = some (r1, r2, r3, r4) := by first | (rw [hy108]; with_reducible exact H) | (have H2_ := (Option.bind_some _ _).symm.trans H; rw [hy108]; with_reducible exact H2_) | (have H2_ := (Option.bind_some _ _).symm.trans H; with_reducible exact H2_) | with_reducible exact H | (rw [hy108]; exact H) | exact H
 have Ny108 := Aside0.mk hy108
 clear hy108
 obtain ⟨y111, hy111⟩ : ∃ y_ : List (S32), y_ = (([(⟨0, y108⟩ : S32), (⟨0, ([] : List Int)⟩ : S32)] : List (S32))) := ⟨_, rfl⟩
 replace H : (some (y102, y105, 0, y111)) = some (r1, r2, r3, r4) := by first | (rw [hy111]; with_reducible exact H) | (have H2_ := (Option.bind_some _ _).symm.trans H; rw [hy111]; with_reducible exact H2_) | (have H2_ := (Option.bind_some _ _).symm.trans H; with_reducible exact H2_) | with_reducible exact H | (rw [hy111]; exact H) | exact H
 have Ny111 := Aside0.mk hy111
 clear hy111
 simp only [Option.some.injEq, Prod.mk.injEq] at H
 obtain ⟨rfl, rfl, rfl, rfl⟩ := H
 go_enter Tryd.func85, Tryd.ntmps85
 go_wp2_with (first | ((with_reducible refine gate_dst (N := 0) rfl ?_); refine box_event ?hg (N := 0) ?hd (cs := #[.slice none 0 0, .slice none 0 0, .int .i64 0, .slice none 0 0]) (t := 25) ?hr ?_; (case hd => rfl); (case hg => rfl); (case hr => first | (go_simp; done) | (go_simp; rfl)); intro gb101 hg w1 hbox hb; have n0_ := Aside0.mk (below_step (by repeat (first | (with_reducible first | exact HB.out | apply below_alloc | apply pw_below_drewN | apply below_drew1) | exact HB.out)) hb); have n1_ := Aside0.mk (hbox); have n2_ := Aside0.mk ((by rw [hg]; exact (below_size (by repeat (first | (with_reducible first | exact HB.out | apply below_alloc | apply pw_below_drewN | apply below_drew1) | exact HB.out))) : w.heap.size ≤ gb101)); have n3_ := Aside0.mk ((by rw [hg]; exact (below_size (by repeat (first | (with_reducible first | exact HB.out | apply below_alloc | apply pw_below_drewN | apply below_drew1) | exact HB.out))) : w.heap.size ≤ gb101)); clear HB; have HB := n0_; have BK101 := n1_; have GW101 := n2_; have GE101 := n3_; clear n0_ n1_ n2_ n3_; clear hb hbox hg) | ((with_reducible refine gate_dst (N := 1) rfl ?_); refine Kd.R_lit Kd.string _ 9 ?hg (N := 1) ?hd (xs := ([(⟨#[83]⟩ : ByteArray)] : List ByteArray)) (inner := [.string (⟨#[83]⟩ : ByteArray)]) (ok := fun _ => True) (okp := fun _ => True) ?hr ?hp (fun _ hk => hk) trivial (Below.refl _ _) (Nat.le_refl _) (by simp) ?_; (case hd => rfl); (case hg => rfl); (case hr => first | (go_simp; done) | (go_simp; rfl)); (case hp => exact (Reps.one (show Kd.M Kd.string _ _ _ (⟨#[83]⟩ : ByteArray) [.string (⟨#[83]⟩ : ByteArray)] from rfl) (Reps.none _ _))); intro v103 w2 ho3 hb hg_ hnew_; clear hg_ hnew_; (first | rw [← Ny102.out] at ho3 | (simp only [Int.reduceToNat] at ho3; rw [← Ny102.out] at ho3)); have n0_ := Aside0.mk (Kd.R_lower (Kd.R_newM (M := fun k_ => (w.heap.size ≤ k_)) ho3 (below_size (by repeat (first | (with_reducible first | exact HB.out | apply below_alloc | apply pw_below_drewN | apply below_drew1 | refine below_set ?_ GE101.out) | exact HB.out))) (fun k_ h_ => h_)) (below_size (by repeat (first | (with_reducible first | exact HB.out | apply below_alloc | apply pw_below_drewN | apply below_drew1 | refine below_set ?_ GE101.out) | exact HB.out)))); have n1_ := Aside0.mk (blk_below (g := gb101) (o := .cells #[.slice none 0 0, .slice none 0 0, .int .i64 0, .slice none 0 0] 25 (0, 0)) (by (with_reducible repeat (first | refine blk_drewN ?_ _ | refine blk_drew ?_ | refine blk_alloc ?_ _)); exact BK101.out) hb); have n2_ := Aside0.mk (below_step (by repeat (first | (with_reducible first | exact HB.out | apply below_alloc | apply pw_below_drewN | apply below_drew1 | refine below_set ?_ GE101.out) | exact HB.out)) hb); clear BK101; clear HB; have HO104 := n0_; have BK101 := n1_; have HB := n2_; clear n0_ n1_ n2_; clear hb ho3) | ((with_reducible refine gate_dst (N := 2) rfl ?_); refine Kd.R_lit Kd.string _ 9 ?hg (N := 2) ?hd (xs := ([(⟨#[97]⟩ : ByteArray)] : List ByteArray)) (inner := [.string (⟨#[97]⟩ : ByteArray)]) (ok := fun _ => True) (okp := fun _ => True) ?hr ?hp (fun _ hk => hk) trivial (Below.refl _ _) (Nat.le_refl _) (by simp) ?_; (case hd => rfl); (case hg => rfl); (case hr => first | (go_simp; done) | (go_simp; rfl)); (case hp => exact (Reps.one (show Kd.M Kd.string _ _ _ (⟨#[97]⟩ : ByteArray) [.string (⟨#[97]⟩ : ByteArray)] from rfl) (Reps.none _ _))); intro v106 w4 ho5 hb hg_ hnew_; clear hg_ hnew_; (first | rw [← Ny105.out] at ho5 | (simp only [Int.reduceToNat] at ho5; rw [← Ny105.out] at ho5)); have n0_ := Aside0.mk (Kd.R_elder' (by (with_reducible repeat (first | apply Kd.R_alloc | apply Kd.R_drewN | apply Kd.R_drew)); exact HO104.out) (Kd.R_base ho5) hb); have n1_ := Aside0.mk (Kd.R_lower (Kd.R_new' (Kd.R_newM (M := fun k_ => (w.heap.size ≤ k_)) ho5 (below_size (by repeat (first | (with_reducible first | exact HB.out | apply below_alloc | apply pw_below_drewN | apply below_drew1 | refine below_set ?_ GE101.out) | exact HB.out))) (fun k_ h_ => h_)) (Kd.R_lt (by (with_reducible repeat (first | apply Kd.R_alloc | apply Kd.R_drewN | apply Kd.R_drew)); exact HO104.out))) (below_size (by repeat (first | (with_reducible first | exact HB.out | apply below_alloc | apply pw_below_drewN | apply below_drew1 | refine below_set ?_ GE101.out) | exact HB.out)))); have n2_ := Aside0.mk (blk_below (g := gb101) (o := .cells #[.slice none 0 0, .slice none 0 0, .int .i64 0, .slice none 0 0] 25 (0, 0)) (by (with_reducible repeat (first | refine blk_drewN ?_ _ | refine blk_drew ?_ | refine blk_alloc ?_ _)); exact BK101.out) hb); have n3_ := Aside0.mk (below_step (by repeat (first | (with_reducible first | exact HB.out | apply below_alloc | apply pw_below_drewN | apply below_drew1 | refine below_set ?_ GE101.out) | exact HB.out)) hb); clear HO104; clear BK101; clear HB; have HO104 := n0_; have HO107 := n1_; have BK101 := n2_; have HB := n3_; clear n0_ n1_ n2_ n3_; clear hb ho5) | ((with_reducible refine gate_dst (N := 3) rfl ?_); refine Kd.R_lit (Kd.int .i64) _ 52 ?hg (N := 3) ?hd (xs := ([(-1), 0] : List Int)) (inner := [.int .i64 (-1), .int .i64 0]) (ok := fun _ => True) (okp := fun _ => True) ?hr ?hp (fun _ hk => hk) trivial (Below.refl _ _) (Nat.le_refl _) (by simp) ?_; (case hd => rfl); (case hg => rfl); (case hr => first | (go_simp; done) | (go_simp; rfl)); (case hp => exact (Reps.one (show Kd.M (Kd.int .i64) _ _ _ (-1) [.int .i64 (-1)] from rfl) (Reps.one (show Kd.M (Kd.int .i64) _ _ _ 0 [.int .i64 0] from rfl) (Reps.none _ _)))); intro v109 w6 ho7 hb hg_ hnew_; clear hg_ hnew_; (first | rw [← Ny108.out] at ho7 | (simp only [Int.reduceToNat] at ho7; rw [← Ny108.out] at ho7)); have n0_ := Aside0.mk (Kd.R_below (by (with_reducible repeat (first | apply Kd.R_alloc | apply Kd.R_drewN | apply Kd.R_drew)); exact HO104.out) hb); have n1_ := Aside0.mk (Kd.R_below (by (with_reducible repeat (first | apply Kd.R_alloc | apply Kd.R_drewN | apply Kd.R_drew)); exact HO107.out) hb); have n2_ := Aside0.mk (Kd.R_lower (Kd.R_newM (M := fun k_ => (w.heap.size ≤ k_)) ho7 (below_size (by repeat (first | (with_reducible first | exact HB.out | apply below_alloc | apply pw_below_drewN | apply below_drew1 | refine below_set ?_ GE101.out) | exact HB.out))) (fun k_ h_ => h_)) (below_size (by repeat (first | (with_reducible first | exact HB.out | apply below_alloc | apply pw_below_drewN | apply below_drew1 | refine below_set ?_ GE101.out) | exact HB.out)))); have n3_ := Aside0.mk (blk_below (g := gb101) (o := .cells #[.slice none 0 0, .slice none 0 0, .int .i64 0, .slice none 0 0] 25 (0, 0)) (by (with_reducible repeat (first | refine blk_drewN ?_ _ | refine blk_drew ?_ | refine blk_alloc ?_ _)); exact BK101.out) hb); have n4_ := Aside0.mk (below_step (by repeat (first | (with_reducible first | exact HB.out | apply below_alloc | apply pw_below_drewN | apply below_drew1 | refine below_set ?_ GE101.out) | exact HB.out)) hb); clear HO104; clear HO107; clear BK101; clear HB; have HO104 := n0_; have HO107 := n1_; have HO110 := n2_; have BK101 := n3_; have HB := n4_; clear n0_ n1_ n2_ n3_ n4_; clear hb ho7; obtain ⟨Ao8, co8, eo8⟩ := Kd.R_slice HO110.out; subst eo8) | ((with_reducible refine gate_dst (N := 6) rfl ?_); refine Kd.N_lit k32 _ 32 ?hg (N' := 6) ?hd (xs := ([(⟨0, y108⟩ : S32), (⟨0, ([] : List Int)⟩ : S32)] : List (S32))) (inner := [.int .i64 0, .slice Ao8 y108.length co8, .int .i64 0, .slice none 0 0]) (ok := (fun k_ => (w.heap.size ≤ k_) ∧ some k_ ≠ (v103 : Value).ownBlock ∧ some k_ ≠ (v106 : Value).ownBlock ∧ k_ ≠ gb101)) (okp := (fun k_ => (w.heap.size ≤ k_) ∧ some k_ ≠ (v103 : Value).ownBlock ∧ some k_ ≠ (v106 : Value).ownBlock ∧ k_ ≠ gb101)) ?hr ?hp (fun _ hk => hk) ((show ∀ k_, w6.heap.size ≤ k_ → (fun k_ => (w.heap.size ≤ k_) ∧ some k_ ≠ (v103 : Value).ownBlock ∧ some k_ ≠ (v106 : Value).ownBlock ∧ k_ ≠ gb101) k_ from fun k_ hk => ⟨(Nat.le_trans (below_size (by repeat (first | (with_reducible first | exact HB.out | apply below_alloc | apply pw_below_drewN | apply below_drew1 | refine below_set ?_ GE101.out) | exact HB.out))) hk), Kd.fresh' (Kd.R_lt (by (with_reducible repeat (first | apply Kd.R_alloc | apply Kd.R_drewN | apply Kd.R_drew)); exact HO104.out)) k_ hk, Kd.fresh' (Kd.R_lt (by (with_reducible repeat (first | apply Kd.R_alloc | apply Kd.R_drewN | apply Kd.R_drew)); exact HO107.out)) k_ hk, Kd.freshB (g := gb101) (o := .cells #[.slice none 0 0, .slice none 0 0, .int .i64 0, .slice none 0 0] 25 (0, 0)) (by (with_reducible repeat (first | refine blk_drewN ?_ _ | refine blk_drew ?_ | refine blk_alloc ?_ _)); exact BK101.out) k_ hk⟩) _ (Nat.le_refl _)) (Below.refl _ _) (Nat.le_refl _) (by simp) ?_; (case hd => rfl); (case hg => rfl); (case hr => first | (go_simp; done) | (go_simp; rfl)); (case hp => exact (Reps.c2 (show Kd.FK k32 _ _ (⟨0, y108⟩ : S32) [.int .i64 0, .slice Ao8 y108.length co8] from (k32_mkF _ _ (⟨0, y108⟩ : S32) (Kd.R_reads' (Kd.R_mono (ok' := (fun k_ => (w.heap.size ≤ k_) ∧ some k_ ≠ (v103 : Value).ownBlock ∧ some k_ ≠ (v106 : Value).ownBlock ∧ k_ ≠ gb101)) (Kd.R_types (Kd.R_apart' (Kd.R_apart' (HO110.out) (Kd.R_typed HO104.out) (by decide)) (Kd.R_typed HO107.out) (by decide)) BK101.out (by decide)) (fun k_ hk => ⟨hk.1.1.1.1, ⟨hk.1.1.2, ⟨hk.1.2, hk.2⟩⟩⟩))).2.1 (Kd.R_F (Kd.R_mono (ok' := (fun k_ => (w.heap.size ≤ k_) ∧ some k_ ≠ (v103 : Value).ownBlock ∧ some k_ ≠ (v106 : Value).ownBlock ∧ k_ ≠ gb101)) (Kd.R_types (Kd.R_apart' (Kd.R_apart' (HO110.out) (Kd.R_typed HO104.out) (by decide)) (Kd.R_typed HO107.out) (by decide)) BK101.out (by decide)) (fun k_ hk => ⟨hk.1.1.1.1, ⟨hk.1.1.2, ⟨hk.1.2, hk.2⟩⟩⟩))))) (Reps.c2 (show Kd.FK k32 _ _ (⟨0, ([] : List Int)⟩ : S32) [.int .i64 0, .slice none 0 0] from (k32_mkF _ _ (⟨0, ([] : List Int)⟩ : S32) (Nat.le_refl _) (Kd.F_nil _ _ _))) (Reps.none _ _)))); intro v112 w9 ho10 hb hg_ hnew_; clear hg_ hnew_; (first | rw [← Ny111.out] at ho10 | (simp only [Int.reduceToNat] at ho10; rw [← Ny111.out] at ho10)); have n0_ := Aside0.mk (Kd.R_below (by (with_reducible repeat (first | apply Kd.R_alloc | apply Kd.R_drewN | apply Kd.R_drew)); exact HO104.out) hb); have n1_ := Aside0.mk (Kd.R_below (by (with_reducible repeat (first | apply Kd.R_alloc | apply Kd.R_drewN | apply Kd.R_drew)); exact HO107.out) hb); have n2_ := Aside0.mk (Kd.N_lower ho10 (below_size (by repeat (first | (with_reducible first | exact HB.out | apply below_alloc | apply pw_below_drewN | apply below_drew1 | refine below_set ?_ GE101.out) | exact HB.out)))); have n3_ := Aside0.mk (blk_below (g := gb101) (o := .cells #[.slice none 0 0, .slice none 0 0, .int .i64 0, .slice none 0 0] 25 (0, 0)) (by (with_reducible repeat (first | refine blk_drewN ?_ _ | refine blk_drew ?_ | refine blk_alloc ?_ _)); exact BK101.out) hb); have n4_ := Aside0.mk (below_step (by repeat (first | (with_reducible first | exact HB.out | apply below_alloc | apply pw_below_drewN | apply below_drew1 | refine below_set ?_ GE101.out) | exact HB.out)) hb); clear HO104; clear HO107; clear BK101; clear HB; clear HO110; have HO104 := n0_; have HO107 := n1_; have HO113 := n2_; have BK101 := n3_; have HB := n4_; clear n0_ n1_ n2_ n3_ n4_; clear hb ho10; obtain ⟨Ao11, co11, eo11⟩ := Kd.N_slice HO113.out; subst eo11; obtain ⟨Ao12, co12, eo12⟩ := Kd.R_slice HO107.out; subst eo12; obtain ⟨Ao13, co13, eo13⟩ := Kd.R_slice HO104.out; subst eo13; have hcz14_0 : w9.cell? ⟨gb101, 0, none⟩ = some (.slice none 0 0) := (blk_cell BK101.out 0).trans rfl; have hcz14_1 : w9.cell? ⟨gb101, 1, none⟩ = some (.slice none 0 0) := (blk_cell BK101.out 1).trans rfl; have hcz14_2 : w9.cell? ⟨gb101, 2, none⟩ = some (.int .i64 0) := (blk_cell BK101.out 2).trans rfl; have hcz14_3 : w9.cell? ⟨gb101, 3, none⟩ = some (.slice none 0 0) := (blk_cell BK101.out 3).trans rfl; have hfz14_0 := blk_frozen BK101.out 0; have hfz14_1 := blk_frozen BK101.out 1; have hfz14_2 := blk_frozen BK101.out 2; have hfz14_3 := blk_frozen BK101.out 3))
 refine bodyPost_ret (results_cell_row rfl _ _ gb101 25 #[.slice Ao13 y102.length co13, .slice Ao12 y105.length co12, .int .i64 0, .slice Ao11 y111.length co11] (0, 0) _ rfl (by (with_reducible repeat (first | refine blk_drewN ?_ _ | refine blk_drew ?_ | refine blk_alloc ?_ _)); refine blk_put (cs := #[.slice Ao13 y102.length co13, .slice Ao12 y105.length co12, .int .i64 0, .slice none 0 0]) ?_ 3 _ rfl; (with_reducible repeat (first | refine blk_drewN ?_ _ | refine blk_drew ?_ | refine blk_alloc ?_ _)); refine blk_put (cs := #[.slice Ao13 y102.length co13, .slice Ao12 y105.length co12, .int .i64 0, .slice none 0 0]) ?_ 2 _ rfl; (with_reducible repeat (first | refine blk_drewN ?_ _ | refine blk_drew ?_ | refine blk_alloc ?_ _)); refine blk_put (cs := #[.slice Ao13 y102.length co13, .slice none 0 0, .int .i64 0, .slice none 0 0]) ?_ 1 _ rfl; (with_reducible repeat (first | refine blk_drewN ?_ _ | refine blk_drew ?_ | refine blk_alloc ?_ _)); refine blk_put (cs := #[.slice none 0 0, .slice none 0 0, .int .i64 0, .slice none 0 0]) ?_ 0 _ rfl; (with_reducible repeat (first | refine blk_drewN ?_ _ | refine blk_drew ?_ | refine blk_alloc ?_ _)); exact BK101.out) Tryd.underlying25 rfl (by kernel_rfl)) rfl ?_
 exact ⟨_, _, _, by first | rfl | (simp [errW_none, errW_some] <;> rfl) | (simp [*, errW_none, errW_some] <;> rfl), by (with_reducible repeat (first | apply Kd.R_alloc | apply Kd.R_drewN | apply Kd.R_drew)); exact Kd.R_mono (Kd.R_far (p := ⟨gb101, 3, none⟩) (Kd.R_far (p := ⟨gb101, 2, none⟩) (Kd.R_far (p := ⟨gb101, 1, none⟩) (Kd.R_far (p := ⟨gb101, 0, none⟩) (Kd.R_types HO104.out BK101.out (by decide)) (fun _ hk => hk.2) (.slice Ao13 y102.length co13)) (fun _ hk => hk.2) (.slice Ao12 y105.length co12)) (fun _ hk => hk.2) (.int .i64 0)) (fun _ hk => hk.2) (.slice Ao11 y111.length co11)) (fun _ hk => ⟨hk.1.1.1, hk.1.2⟩), by (with_reducible repeat (first | apply Kd.R_alloc | apply Kd.R_drewN | apply Kd.R_drew)); exact Kd.R_mono (Kd.R_far (p := ⟨gb101, 3, none⟩) (Kd.R_far (p := ⟨gb101, 2, none⟩) (Kd.R_far (p := ⟨gb101, 1, none⟩) (Kd.R_far (p := ⟨gb101, 0, none⟩) (Kd.R_types HO107.out BK101.out (by decide)) (fun _ hk => hk.2) (.slice Ao13 y102.length co13)) (fun _ hk => hk.2) (.slice Ao12 y105.length co12)) (fun _ hk => hk.2) (.int .i64 0)) (fun _ hk => hk.2) (.slice Ao11 y111.length co11)) (fun _ hk => ⟨hk.1.1.1, hk.1.2⟩), by (with_reducible repeat (first | apply Kd.N_alloc | apply Kd.N_drewN | apply Kd.N_drew)); exact Kd.N_mono (Kd.N_far (p := ⟨gb101, 3, none⟩) (Kd.N_far (p := ⟨gb101, 2, none⟩) (Kd.N_far (p := ⟨gb101, 1, none⟩) (Kd.N_far (p := ⟨gb101, 0, none⟩) (Kd.N_mono HO113.out (fun k_ hk => (⟨hk, hk.2.2.2⟩ : _ ∧ k_ ≠ gb101))) (fun _ hk => hk.2) (.slice Ao13 y102.length co13)) (fun _ hk => hk.2) (.slice Ao12 y105.length co12)) (fun _ hk => hk.2) (.int .i64 0)) (fun _ hk => hk.2) (.slice Ao11 y111.length co11)) (fun _ hk => ⟨hk.1.1, ⟨hk.1.2.1, hk.1.2.2.1⟩⟩), by repeat (first | (with_reducible first | exact HB.out | apply below_alloc | apply pw_below_drewN | apply below_drew1 | refine below_set ?_ GE101.out) | exact HB.out)⟩
end Go.Proofs.YtmdjmbdeeodehaaDoor.G
end
section
set_option linter.unusedVariables false
set_option linter.unusedSimpArgs false
namespace Go.Proofs.YtmdjmbdeeodehaaDoor.G
open Go Go.RowKit Go.Proofs.YtmdjmbdeeodehaaDoorW.PrintWords Go.Proofs.YtmdjmbdeeodehaaDoor.Pure
structure GIn (l0 l1 : List ByteArray) (a2 : Int) (l3 : List GRule) : Prop where
  n0 : l0.length ≤ 140737488355328
  n1 : l1.length ≤ 140737488355328
  n3 : l3.length ≤ 140737488355328
  s0 : ∀ s ∈ l0, s.size ≤ 140737488355328
  s1 : ∀ s ∈ l1, s.size ≤ 140737488355328
  i2 : symOk a2 = true
  r3 : ∀ r ∈ l3, symOk r.f0 = true ∧ r.f1.length ≤ 140737488355328 ∧ ∀ s ∈ r.f1, symOk s = true
def sizeR (l : List GRule) : Nat := (l.map fun r => 1 + r.f1.length).sum
def sixt (l : List ByteArray) : Nat := (l.map fun s => s.size / 16).sum
def smallB (l0 l1 : List ByteArray) (l3 : List GRule) : Bool := decide (sizeR l3 + sixt l0 + sixt l1 ≤ 600 ∧ l0.length ≤ 60 ∧ l1.length ≤ 60 ∧ l3.length ≤ 120)
theorem le_sum_of_mem {α : Type} (f : α → Nat) : ∀ {l : List α} {x : α}, x ∈ l → f x ≤ (l.map f).sum := by
  intro l
  induction l with
  | nil => intro x h; exact absurd h (by simp)
  | cons a l ih =>
    intro x h
    rw [List.map_cons, List.sum_cons]
    rcases List.mem_cons.1 h with rfl | h
    · omega
    · have := ih h; omega
theorem sum_le_of {α : Type} (f : α → Nat) (m : Nat) : ∀ {l : List α}, (∀ x ∈ l, f x ≤ m) → (l.map f).sum ≤ l.length * m := by
  intro l
  induction l with
  | nil => intro _; simp
  | cons a l ih =>
    intro h
    have h1 := h a (by simp)
    have h2 := ih (fun x hx => h x (List.mem_cons_of_mem _ hx))
    rw [List.map_cons, List.sum_cons, List.length_cons, Nat.add_mul]; omega
theorem small_ok {l0 l1 : List ByteArray} {a2 : Int} {l3 : List GRule} (h : GIn l0 l1 a2 l3) (hs : smallB l0 l1 l3 = true) :
    gramOk l0 l1 a2 l3 = true ∧ l0.length ≤ 60 ∧ l1.length ≤ 60 ∧ l3.length ≤ 120 ∧ sizeR l3 ≤ 600 ∧ (∀ s ∈ l0, s.size ≤ 10000) ∧ (∀ s ∈ l1, s.size ≤ 10000) ∧ ∀ r ∈ l3, r.f1.length ≤ 600 := by
  have hs := of_decide_eq_true hs
  have k0 : ∀ s ∈ l0, s.size ≤ 10000 := fun s hm => by
    have := le_sum_of_mem (fun s : ByteArray => s.size / 16) hm
    have e : s.size / 16 ≤ _ := this; unfold sixt at hs; omega
  have k1 : ∀ s ∈ l1, s.size ≤ 10000 := fun s hm => by
    have := le_sum_of_mem (fun s : ByteArray => s.size / 16) hm
    have e : s.size / 16 ≤ _ := this; unfold sixt at hs; omega
  have k3 : ∀ r ∈ l3, r.f1.length ≤ 600 := fun r hm => by
    have := le_sum_of_mem (fun r : GRule => 1 + r.f1.length) hm
    have e : 1 + r.f1.length ≤ _ := this; unfold sizeR at hs; omega
  refine ⟨?_, hs.2.1, hs.2.2.1, hs.2.2.2, by omega, k0, k1, k3⟩
  simp only [gramOk, Bool.and_eq_true, decide_eq_true_eq, List.all_eq_true]
  refine ⟨⟨⟨⟨⟨⟨by omega, by omega⟩, by omega⟩, fun s hm => by have := k0 s hm; omega⟩, fun s hm => by have := k1 s hm; omega⟩, h.i2⟩, fun r hm => ?_⟩
  simp only [ruleOk, Bool.and_eq_true, decide_eq_true_eq, List.all_eq_true]
  exact ⟨⟨(h.r3 r hm).1, by have := k3 r hm; omega⟩, (h.r3 r hm).2.2⟩
theorem rdG (l : List GRule) (i : Nat) (h : i < l.length) : rd_T32 l (i : Int) = l[i] := by
  rw [rd_T32, Int.toNat_natCast, List.getD_eq_getElem?_getD, List.getElem?_eq_getElem h]; rfl
theorem rdBy (l : List ByteArray) (i : Nat) (h : i < l.length) : rdOf ByteArray.empty l (i : Int) = l[i] := by
  rw [rdOf, Int.toNat_natCast, List.getD_eq_getElem?_getD, List.getElem?_eq_getElem h]; rfl
theorem wsucc {i : Nat} (h : i ≤ 1000000000000000) : wrap64 ((i : Int) + 1) = ((i + 1 : Nat) : Int) := by rw [w64 (by omega) (by omega)]; rfl
section
variable (l0 l1 : List ByteArray) (a2 : Int) (l3 : List GRule) (h : GIn l0 l1 a2 l3)
def finS (y : Int) : Bool := decide (y ≤ 600 ∧ l0.length ≤ 60 ∧ l1.length ≤ 60 ∧ l3.length ≤ 120)
include h
theorem small_l2 : ∀ (d i : Nat), i + d = l1.length → ∀ x : Int, ∃ y : Int, (0 ≤ x → x + (sixt (l1.drop i) : Int) ≤ 9223372036854775807 → y = x + (sixt (l1.drop i) : Int)) ∧ Ev (fun k => wickerlaw02_Small.l2 k x l1 (l1.length : Int) (i : Int) l0 l1 a2 l3) (finS l0 l1 l3 y) := by
  have hn := h.n1
  intro d
  induction d with
  | zero =>
    intro i hi x
    refine ⟨x, fun _ _ => by rw [List.drop_eq_nil_of_le (by omega)]; simp [sixt], ev_nowS fun k => ?_⟩
    rw [wickerlaw02_Small.l2, if_neg (by omega)]
    unfold finS
    by_cases c1 : x ≤ 600
    · rw [if_pos c1]
      by_cases c2 : l0.length ≤ 60
      · rw [if_pos (by omega)]
        by_cases c3 : l1.length ≤ 60
        · rw [if_pos (by omega)]
          by_cases c4 : l3.length ≤ 120
          · rw [decide_eq_true (by omega), decide_eq_true ⟨c1, c2, c3, c4⟩]
          · rw [decide_eq_false (by omega), decide_eq_false (fun hh => c4 hh.2.2.2)]
        · rw [if_neg (by omega), decide_eq_false (fun hh => c3 hh.2.2.1)]
      · rw [if_neg (by omega), decide_eq_false (fun hh => c2 hh.2.1)]
    · rw [if_neg c1, decide_eq_false (fun hh => c1 hh.1)]
  | succ d ih =>
    intro i hi x
    have hi1 : i < l1.length := by omega
    have hs := h.s1 _ (List.getElem_mem hi1)
    obtain ⟨y, hy, hev⟩ := ih (i + 1) (by omega) (wrap64 (x + ((l1[i].size / 16 : Nat) : Int)))
    refine ⟨y, fun hx hb => ?_, Ev.step (fun k => ?_) hev⟩
    · have e : sixt (l1.drop i) = l1[i].size / 16 + sixt (l1.drop (i + 1)) := by rw [List.drop_eq_getElem_cons hi1]; simp only [sixt, List.map_cons, List.sum_cons]
      rw [e] at hb ⊢
      rw [w64 (by omega) (by omega)] at hy
      rw [hy (by omega) (by omega)]; omega
    · rw [wickerlaw02_Small.l2, if_pos (by omega), if_pos (by omega), if_pos (by omega), rdBy l1 i hi1, w64 (i := ((l1[i].size : Int) / 16)) (by omega) (by omega), wsucc (by omega), show ((l1[i].size : Int) / 16) = ((l1[i].size / 16 : Nat) : Int) by omega]
theorem small_l1 : ∀ (d i : Nat), i + d = l0.length → ∀ x : Int, ∃ y : Int, (0 ≤ x → x + (sixt (l0.drop i) : Int) + (sixt l1 : Int) ≤ 9223372036854775807 → y = x + (sixt (l0.drop i) : Int) + (sixt l1 : Int)) ∧ Ev (fun k => wickerlaw02_Small.l1 k x l0 (l0.length : Int) (i : Int) l0 l1 a2 l3) (finS l0 l1 l3 y) := by
  have hn := h.n0
  intro d
  induction d with
  | zero =>
    intro i hi x
    obtain ⟨y, hy, hev⟩ := small_l2 l0 l1 a2 l3 h l1.length 0 (by omega) x
    rw [List.drop_zero] at hy
    refine ⟨y, fun h1 h2 => ?_, Ev.step (fun k => ?_) hev⟩
    · rw [List.drop_eq_nil_of_le (by omega)] at h2 ⊢
      simp only [sixt, List.map_nil, List.sum_nil] at h2 ⊢
      rw [hy h1 (by unfold sixt; omega)]; unfold sixt; omega
    · rw [wickerlaw02_Small.l1, if_neg (by omega)]; rfl
  | succ d ih =>
    intro i hi x
    have hi1 : i < l0.length := by omega
    have hs := h.s0 _ (List.getElem_mem hi1)
    obtain ⟨y, hy, hev⟩ := ih (i + 1) (by omega) (wrap64 (x + ((l0[i].size / 16 : Nat) : Int)))
    refine ⟨y, fun hx hb => ?_, Ev.step (fun k => ?_) hev⟩
    · have e : sixt (l0.drop i) = l0[i].size / 16 + sixt (l0.drop (i + 1)) := by rw [List.drop_eq_getElem_cons hi1]; simp only [sixt, List.map_cons, List.sum_cons]
      rw [e] at hb ⊢
      rw [w64 (by omega) (by omega)] at hy
      rw [hy (by omega) (by omega)]; omega
    · rw [wickerlaw02_Small.l1, if_pos (by omega), if_pos (by omega), if_pos (by omega), rdBy l0 i hi1, w64 (i := ((l0[i].size : Int) / 16)) (by omega) (by omega), wsucc (by omega), show ((l0[i].size : Int) / 16) = ((l0[i].size / 16 : Nat) : Int) by omega]
theorem small_l0 : ∀ (d i : Nat), i + d = l3.length → ∀ x : Int, ∃ y : Int, (0 ≤ x → x + (sizeR (l3.drop i) : Int) + (sixt l0 : Int) + (sixt l1 : Int) ≤ 9223372036854775807 → y = x + (sizeR (l3.drop i) : Int) + (sixt l0 : Int) + (sixt l1 : Int)) ∧ Ev (fun k => wickerlaw02_Small.l0 k x l3 (l3.length : Int) (i : Int) l0 l1 a2 l3) (finS l0 l1 l3 y) := by
  have hn := h.n3
  intro d
  induction d with
  | zero =>
    intro i hi x
    obtain ⟨y, hy, hev⟩ := small_l1 l0 l1 a2 l3 h l0.length 0 (by omega) x
    rw [List.drop_zero] at hy
    refine ⟨y, fun h1 h2 => ?_, Ev.step (fun k => ?_) hev⟩
    · rw [List.drop_eq_nil_of_le (by omega)] at h2 ⊢
      simp only [sizeR, List.map_nil, List.sum_nil] at h2 ⊢
      rw [hy h1 (by omega)]; omega
    · rw [wickerlaw02_Small.l0, if_neg (by omega)]; rfl
  | succ d ih =>
    intro i hi x
    have hi1 : i < l3.length := by omega
    have hs := (h.r3 _ (List.getElem_mem hi1)).2.1
    obtain ⟨y, hy, hev⟩ := ih (i + 1) (by omega) (wrap64 (x + ((1 + l3[i].f1.length : Nat) : Int)))
    refine ⟨y, fun hx hb => ?_, Ev.step (fun k => ?_) hev⟩
    · have e : sizeR (l3.drop i) = (1 + l3[i].f1.length) + sizeR (l3.drop (i + 1)) := by rw [List.drop_eq_getElem_cons hi1]; simp only [sizeR, List.map_cons, List.sum_cons]
      rw [e] at hb ⊢
      rw [w64 (by omega) (by omega)] at hy
      rw [hy (by omega) (by omega)]; omega
    · rw [wickerlaw02_Small.l0, if_pos (by omega), if_pos (by omega), if_pos (by omega), rdG l3 i hi1, w64 (i := 1 + (l3[i].f1.length : Int)) (by omega) (by omega), wsucc (by omega), show 1 + (l3[i].f1.length : Int) = ((1 + l3[i].f1.length : Nat) : Int) by omega]
theorem small_f : Ev (fun k => wickerlaw02_Small.f k l0 l1 a2 l3) (smallB l0 l1 l3) := by
  obtain ⟨y, hy, hev⟩ := small_l0 l0 l1 a2 l3 h l3.length 0 (by omega) 0
  rw [List.drop_zero] at hy
  refine Ev.eq (show Ev (fun k => wickerlaw02_Small.f k l0 l1 a2 l3) _ from hev) ?_
  unfold finS smallB
  by_cases hb : l0.length ≤ 60 ∧ l1.length ≤ 60 ∧ l3.length ≤ 120
  · have b3 := sum_le_of (fun r : GRule => 1 + r.f1.length) 140737488355329 (l := l3) (fun r hr => by have := (h.r3 r hr).2.1; omega)
    have b0 := sum_le_of (fun s : ByteArray => s.size / 16) 140737488355328 (l := l0) (fun s hs => by have := h.s0 s hs; omega)
    have b1 := sum_le_of (fun s : ByteArray => s.size / 16) 140737488355328 (l := l1) (fun s hs => by have := h.s1 s hs; omega)
    have e := hy (by omega) (by unfold sizeR sixt; omega)
    rw [e]
    congr 1
    apply propext
    constructor
    · intro hh; omega
    · intro hh; omega
  · rw [decide_eq_false (fun hh => hb hh.2), decide_eq_false (fun hh => hb hh.2)]
end
end Go.Proofs.YtmdjmbdeeodehaaDoor.G
end
section
set_option linter.unusedVariables false
set_option linter.unusedSimpArgs false
namespace Go.Proofs.YtmdjmbdeeodehaaDoorOpen
open Go Go.RowKit Go.ChangeShapes Go.Deep Go.Proofs.YtmdjmbdeeodehaaDoorW.PrintWords
def OpensS {α : Type} (P : Program) (W : World) (t : TypeId) (d : Kd α) (G : α → Prop) : Prop :=
  ∀ (H : Type) (enc : TypeId × Value → H) (base : Nat) (sp : Nat → Bool) (held : Bool) (fuel : Nat) (cs : List Value) (x : DataW H × List MemPlace), DataW.trod enc P W base sp held fuel t cs = some x →
    (∀ n ∈ x.1.weights P t, n ≤ reachBytes) → ∃ y, d.K W y cs ∧ G y
section
variable {P : Program} {W : World} {t : TypeId}
theorem opensS_string (ht : P.underlying t = some .string) : OpensS P W t Kd.string (fun s => s.size ≤ reachBytes) := by
  intro H enc base sp held fuel cs x h hw
  obtain ⟨s, rfl, rfl, hs⟩ := DataW.trod_string ht h
  exact ⟨s, rfl, by have := hw s.data.toList.length (by simp [DataW.weights]); rwa [Array.length_toList] at this⟩
theorem opensS_int {k : IntKind} (ht : P.underlying t = some (.int k)) : OpensS P W t (Kd.int k) (fun n => (Lit.int k n).wf = true) := by
  intro H enc base sp held fuel cs x h hw
  obtain ⟨n, rfl, _, hn⟩ := DataW.trod_int ht h
  exact ⟨n, rfl, hn⟩
theorem mem_weightsAll {H : Type} {e : TypeId} {d : DataW H} : ∀ {l : List (DataW H)}, d ∈ l → ∀ n ∈ d.weights P e, n ∈ DataW.weightsAll P e l
  | [], h, _, _ => (List.not_mem_nil h).elim
  | x :: r, h, n, hn => by
    simp only [DataW.weightsAll, List.mem_append]
    rcases List.mem_cons.1 h with rfl | h
    · exact .inl hn
    · exact .inr (mem_weightsAll h n hn)
theorem opensS_slice {α : Type} [Inhabited α] {e : TypeId} {d : Kd α} {G : α → Prop} (ht : P.underlying t = some (.slice e)) (hc : P.cellsOf e = d.sz) (he : OpensS P W e d G) :
    OpensS P W t (Kd.slice e d) (fun l => (∀ y ∈ l, G y) ∧ l.length * P.bytesOf e ≤ reachBytes ∧ l.length ≤ maxLen) := by
  intro H enc base sp held fuel cs x h hw
  rcases Deep.open_slice ht h with ⟨rfl, _⟩ | ⟨a, len, cap, m, n, D, Pl, rfl, hb, hl, hm, hmm, rfl, hx⟩
  · exact ⟨[], ⟨none, 0, rfl, Nat.le_refl _, Kd.C_nil d W⟩, ⟨fun y hy => (List.not_mem_nil hy).elim, by simp, Nat.zero_le _⟩⟩
  have hlm : len ≤ m := by rw [hmm]; split <;> omega
  simp only [DataW.weights, ht] at hw
  have hsz : len * P.bytesOf e ≤ reachBytes := by
    have h1 := hw _ List.mem_cons_self
    rw [List.length_map, List.length_map, List.length_range, List.length_range] at h1
    exact Nat.le_trans (Nat.mul_le_mul_right _ (by omega)) h1
  obtain ⟨Y, hY⟩ := Deep.choose_lt (α := α) (n := len) (p := fun i y => (∃ c, c.length = d.sz ∧ d.K W y c ∧ ∀ j u, c[j]? = some u → W.cell? (a.add (i * d.sz + j)) = some u) ∧ G y) (fun i hi => by
    obtain ⟨cs', h1, h2⟩ := hx i (by omega)
    rw [hc] at h1
    obtain ⟨_, hlen, hcell⟩ := World.cells?_some h1
    obtain ⟨y, hy, hg⟩ := he H enc base sp held n cs' _ h2 (fun k hk => hw k (List.mem_cons_of_mem _ (List.mem_append_left _ (mem_weightsAll (d := D i) (List.mem_map.2 ⟨i, List.mem_range.2 hi, rfl⟩) k hk))))
    refine ⟨y, ⟨cs', hlen, hy, fun j u hj => ?_⟩, hg⟩
    have hjl : j < d.sz := by rw [← hlen]; exact (List.getElem?_eq_some_iff.1 hj).1
    have := hcell j hjl
    rw [Deep.add_add] at this
    rw [this]; exact hj)
  have hl2 : ((List.range len).map Y).length = len := by simp
  refine ⟨(List.range len).map Y, ⟨some a, cap, by rw [hl2], by rw [hl2]; exact hl, ⟨rfl, ?_, fun _ => ⟨a, rfl, fun j p hj => ?_⟩⟩⟩, ⟨fun y hy => ?_, by rw [hl2]; exact hsz, ?_⟩⟩
  · rw [hl2]; unfold maxLen at hm; omega
  · have hjl : j < len := by have := (List.getElem?_eq_some_iff.1 hj).1; simpa using this
    rw [List.getElem?_map, List.getElem?_range hjl] at hj
    obtain rfl := Option.some.inj hj
    exact (hY j hjl).1
  · obtain ⟨i, hi, rfl⟩ := List.mem_map.1 hy
    exact (hY i (List.mem_range.1 hi)).2
  · rw [hl2]; omega
theorem opensS_mono {α : Type} {d : Kd α} {G G' : α → Prop} (h : OpensS P W t d G) (hg : ∀ y, G y → G' y) : OpensS P W t d G' := by
  intro H enc base sp held fuel cs x hx hw
  obtain ⟨y, hy, hG⟩ := h H enc base sp held fuel cs x hx hw
  exact ⟨y, hy, hg y hG⟩
theorem opensS_two {α β γ : Type} {f0 f1 : Field} {a : Kd α} {b : Kd β} {Ga : α → Prop} {Gb : β → Prop} (ht : P.underlying t = some (.struct #[f0, f1])) (hone : oneCellFields P #[f0, f1] = true) (hC : P.cellsOf t = 2)
    (ha : OpensS P W f0.type a Ga) (hb : OpensS P W f1.type b Gb) (f : γ → α × β) (g : α → β → γ) (hfg : ∀ x y, f (g x y) = (x, y)) : OpensS P W t (Kd.iso (Kd.pair a b) f) (fun z => Ga (f z).1 ∧ Gb (f z).2) := by
  intro H enc base sp held fuel cs x h hw
  obtain ⟨y0, y1, n, rfl, hl, h0, h1⟩ := trod_struct2 ht h
  obtain ⟨o0, k0⟩ := Deep.hone_of hone 0 f0 rfl
  obtain ⟨o1, k1⟩ := Deep.hone_of hone 1 f1 rfl
  rw [hC] at hl
  obtain ⟨c0, c1, rfl⟩ : ∃ c0 c1, cs = [c0, c1] := by
    match cs, hl with
    | [c0, c1], _ => exact ⟨c0, c1, rfl⟩
  simp only [DataW.weights, ht, List.map_cons, List.map_nil, DataW.weightsEach, List.append_nil, List.mem_append] at hw
  obtain ⟨x0, hx0, g0⟩ := ha H enc base sp held n [c0] y0 (by simpa [o0, k0] using h0) (fun k hk => hw k (.inl hk))
  obtain ⟨x1, hx1, g1⟩ := hb H enc base sp held n [c1] y1 (by simpa [o1, k1] using h1) (fun k hk => hw k (.inr hk))
  refine ⟨g x0 x1, ?_, ?_⟩
  · show (Kd.pair a b).K W (f (g x0 x1)) [c0, c1]
    rw [hfg]
    exact ⟨[c0], [c1], rfl, hx0, hx1⟩
  · show Ga (f (g x0 x1)).1 ∧ Gb (f (g x0 x1)).2
    rw [hfg]; exact ⟨g0, g1⟩
theorem opened {α : Type} {d : Kd α} {G : α → Prop} (h : OpensS P W t d G) {H : Type} {enc : TypeId × Value → H} {base : Nat} {sp : Nat → Bool} {held : Bool} {v : Value} {D : DataW H} {p : List MemPlace} (ht : DataW.Trod enc P W base sp held t v D p) (hw : ∀ n ∈ D.weights P t, n ≤ reachBytes) :
    ∃ y, d.K W y v.cells.toList ∧ G y := by
  obtain ⟨fuel, hf⟩ := ht
  exact h H enc base sp held fuel _ _ hf hw
theorem weigh {H : Type} {ts : List TypeId} {ds : List (DataW H)} (h : (DataW.weightsEach P ts ds).all (· ≤ reachBytes) = true) {j : Nat} {d : DataW H} (ht : ts[j]? = some t) (hd : ds[j]? = some d) : ∀ n ∈ d.weights P t, n ≤ reachBytes := fun n hn =>
  of_decide_eq_true (List.all_eq_true.1 h n (DataW.weights_mem_each ht hd n hn))
end
end Go.Proofs.YtmdjmbdeeodehaaDoorOpen
end
section
set_option linter.unusedVariables false
set_option linter.unusedSimpArgs false
namespace Go.Proofs.YtmdjmbdeeodehaaDoor.G
open Go Go.RowKit Go.ChangeShapes Go.WideShapes Go.Deep Go.Proofs.YtmdjmbdeeodehaaDoorOpen Go.Proofs.YtmdjmbdeeodehaaDoorW.PrintWords
instance : Inhabited GRule := ⟨⟨0, []⟩⟩
theorem wf_sym (n : Int) (h : (Lit.int .i64 n).wf = true) : symOk n = true := by
  have e1 : IntKind.i64.min = -9223372036854775808 := by decide
  have e2 : IntKind.i64.max = 9223372036854775807 := by decide
  simp only [Lit.wf, Bool.and_eq_true, decide_eq_true_eq, e1, e2] at h
  unfold symOk
  rw [decide_eq_true_eq]
  omega
theorem opens_rule (W : World) : OpensS Tryd.prog W 32 k32 (fun r => symOk r.f0 = true ∧ r.f1.length ≤ 140737488355328 ∧ ∀ s ∈ r.f1, symOk s = true) := by
  have hi := wf_sym
  have h1 : OpensS Tryd.prog W 30 (Kd.slice 52 (Kd.int .i64)) (fun l => (∀ y ∈ l, (Lit.int .i64 y).wf = true) ∧ l.length * Tryd.prog.bytesOf 52 ≤ reachBytes ∧ l.length ≤ maxLen) :=
    opensS_slice Tryd.underlying30 (by kernel_rfl) (opensS_int Tryd.underlying52)
  have hb : Tryd.prog.bytesOf 52 = 8 := by kernel_rfl
  refine opensS_mono (opensS_two (f := fun x : GRule => (x.f0, x.f1)) (g := fun a b => ⟨a, b⟩) Tryd.underlying32 (by kernel_rfl) (by kernel_rfl) (opensS_int Tryd.underlying3) h1 (fun _ _ => rfl)) ?_
  rintro r ⟨g0, g1, g2, _⟩
  rw [hb] at g2
  unfold reachBytes at g2
  have g2' : r.f1.length * 8 ≤ 0x7ffffffff000 := g2
  exact ⟨hi _ g0, by omega, fun s hs => hi _ (g1 s hs)⟩
set_option maxRecDepth 100000 in
theorem open_gram {H : Type} {enc : TypeId × Value → H} {W : World} {base b0 : Nat} {sp : Nat → Bool} {held : Bool} {r : Reach} {v : Value} {D : DataW H} {p : List MemPlace} (hv : Value.okWide Tryd.prog W r b0 25 v) (h : DataW.Trod enc Tryd.prog W base sp held 25 v D p)
    (hw : ∀ n ∈ D.weights Tryd.prog 25, n ≤ reachBytes) :
    ∃ (A0 : Option Addr) (c0 : Nat) (l0 : List ByteArray) (A1 : Option Addr) (c1 : Nat) (l1 : List ByteArray) (a2 : Int) (A3 : Option Addr) (c3 : Nat) (l3 : List GRule), v = .agg #[.slice A0 l0.length c0, .slice A1 l1.length c1, .int .i64 a2, .slice A3 l3.length c3] ∧
      (Kd.C Kd.string W A0 l0.length l0 ∧ l0.length ≤ c0) ∧ (Kd.C Kd.string W A1 l1.length l1 ∧ l1.length ≤ c1) ∧ (Kd.C k32 W A3 l3.length l3 ∧ l3.length ≤ c3) ∧ GIn l0 l1 a2 l3 := by
  obtain ⟨v0, v1, v2, v3, y0, y1, y2, y3, n, rfl, rfl, rfl, h0, h1, h2, h3⟩ := Joins.open_agg4 Tryd.underlying25 (by kernel_rfl) (by kernel_rfl) hv h
  simp only [DataW.weights, Tryd.underlying25, List.map_cons, List.map_nil, DataW.weightsEach, List.append_nil, List.mem_append] at hw
  have hi := wf_sym
  have hs : OpensS Tryd.prog W 22 (Kd.slice 9 Kd.string) (fun l => (∀ y ∈ l, y.size ≤ reachBytes) ∧ l.length * Tryd.prog.bytesOf 9 ≤ reachBytes ∧ l.length ≤ maxLen) :=
    opensS_slice Tryd.underlying22 (by kernel_rfl) (opensS_string Tryd.underlying9)
  have hr : OpensS Tryd.prog W 23 (Kd.slice 32 k32) (fun l => (∀ r ∈ l, symOk r.f0 = true ∧ r.f1.length ≤ 140737488355328 ∧ ∀ s ∈ r.f1, symOk s = true) ∧ l.length * Tryd.prog.bytesOf 32 ≤ reachBytes ∧ l.length ≤ maxLen) :=
    opensS_slice Tryd.underlying23 (by kernel_rfl) (opens_rule W)
  have hb0 : Tryd.prog.bytesOf 9 = 16 := by kernel_rfl
  have hb3 : Tryd.prog.bytesOf 32 = 32 := by kernel_rfl
  obtain ⟨l0, ⟨A0, c0, e0, hc0, hC0⟩, g0, g0', _⟩ := hs H enc base sp held n [v0] y0 h0 (fun k hk => hw k (.inl hk))
  obtain ⟨l1, ⟨A1, c1, e1, hc1, hC1⟩, g1, g1', _⟩ := hs H enc base sp held n [v1] y1 h1 (fun k hk => hw k (.inr (.inl hk)))
  obtain ⟨a2, e2, g2⟩ := opensS_int Tryd.underlying3 H enc base sp held n [v2] y2 h2 (fun k hk => hw k (.inr (.inr (.inl hk))))
  obtain ⟨l3, ⟨A3, c3, e3, hc3, hC3⟩, g3, g3', _⟩ := hr H enc base sp held n [v3] y3 h3 (fun k hk => hw k (.inr (.inr (.inr hk))))
  injection e0 with e0; injection e1 with e1; injection e2 with e2; injection e3 with e3
  subst e0; subst e1; subst e2; subst e3
  rw [hb0] at g0' g1'
  rw [hb3] at g3'
  unfold reachBytes at g0 g1 g0' g1' g3'
  exact ⟨A0, c0, l0, A1, c1, l1, a2, A3, c3, l3, rfl, ⟨hC0, hc0⟩, ⟨hC1, hc1⟩, ⟨hC3, hc3⟩, ⟨by omega, by omega, by omega, fun s hm => by have := g0 s hm; omega, fun s hm => by have := g1 s hm; omega, hi _ g2, g3⟩⟩
end Go.Proofs.YtmdjmbdeeodehaaDoor.G
end
section
set_option linter.unusedVariables false
set_option linter.unusedSimpArgs false
namespace Go.Proofs.YtmdjmbdeeodehaaDoor.G
open Go Go.RowKit Go.ChangeShapes Go.WideShapes Go.Deep Go.Proofs.YtmdjmbdeeodehaaDoorOpen Go.Proofs.YtmdjmbdeeodehaaDoorW.PrintWords
instance : Inhabited S157 := ⟨⟨0, 0, 0⟩⟩
set_option maxRecDepth 100000 in
theorem opens_part (W : World) : OpensS Tryd.prog W 157 k157 (fun p => symOk p.f0 = true ∧ symOk p.f1 = true ∧ symOk p.f2 = true) := by
  intro H enc base sp held fuel cs x h hw
  have hi := wf_sym
  have hI : ∀ t, Tryd.prog.underlying t = some (.int .i64) → OpensS Tryd.prog W t (Kd.int .i64) (fun n => (Lit.int .i64 n).wf = true) := fun t ht => opensS_int ht
  obtain ⟨y0, y1, y2, n, rfl, hl, h0, h1, h2⟩ := trod_struct3 Tryd.underlying157 h
  have kk : Tryd.prog.cellsOf 3 = 1 := by kernel_rfl
  rw [show Tryd.prog.cellsOf 157 = 3 by kernel_rfl] at hl
  obtain ⟨c0, c1, c2, rfl⟩ : ∃ c0 c1 c2, cs = [c0, c1, c2] := by
    match cs, hl with
    | [c0, c1, c2], _ => exact ⟨c0, c1, c2, rfl⟩
  simp only [DataW.weights, Tryd.underlying157, List.map_cons, List.map_nil, DataW.weightsEach, List.append_nil, List.mem_append] at hw
  obtain ⟨x0, hx0, g0⟩ := hI 3 Tryd.underlying3 H enc base sp held n [c0] y0 (by simpa [kk] using h0) (fun k hk => hw k (.inl hk))
  obtain ⟨x1, hx1, g1⟩ := hI 3 Tryd.underlying3 H enc base sp held n [c1] y1 (by simpa [kk] using h1) (fun k hk => hw k (.inr (.inl hk)))
  obtain ⟨x2, hx2, g2⟩ := hI 3 Tryd.underlying3 H enc base sp held n [c2] y2 (by simpa [kk] using h2) (fun k hk => hw k (.inr (.inr hk)))
  have e0 : [c0] = [.int .i64 x0] := hx0
  have e1 : [c1] = [.int .i64 x1] := hx1
  have e2 : [c2] = [.int .i64 x2] := hx2
  injection e0 with e0 _
  injection e1 with e1 _
  injection e2 with e2 _
  subst e0
  subst e1
  subst e2
  exact ⟨⟨x0, x1, x2⟩, k157_mk W ⟨x0, x1, x2⟩, hi _ g0, hi _ g1, hi _ g2⟩
set_option maxRecDepth 100000 in
theorem open_parts {H : Type} {enc : TypeId × Value → H} {W : World} {base b0 : Nat} {sp : Nat → Bool} {held : Bool} {r : Reach} {v : Value} {D : DataW H} {p : List MemPlace} (hv : Value.okWide Tryd.prog W r b0 51 v) (h : DataW.Trod enc Tryd.prog W base sp held 51 v D p)
    (hw : ∀ n ∈ D.weights Tryd.prog 51, n ≤ reachBytes) :
    ∃ (l : List S157) (A : Option Addr) (c : Nat), v = .slice A l.length c ∧ (∀ p ∈ l, symOk p.f0 = true ∧ symOk p.f1 = true ∧ symOk p.f2 = true) ∧ l.length ≤ c ∧ Kd.C k157 W A l.length l := by
  obtain ⟨a, len, cap, rfl⟩ := okWide_slice Tryd.underlying51 hv
  obtain ⟨l, hx, hg, _⟩ := opened (opensS_slice Tryd.underlying51 (by kernel_rfl) (opens_part W)) h hw
  obtain ⟨A, c, hcs, hl, hC⟩ := hx
  refine ⟨l, A, c, ?_, hg, hl, hC⟩
  have h2 : [Value.slice a len cap] = [Value.slice A l.length c] := hcs
  injection h2 with h2 _
theorem bulk_one {H : Type} (d : DataW H) : 1 ≤ Rows.uptoBulk d := by
  cases d with
  | lit l => cases l <;> simp [Rows.uptoBulk]
  | nil => simp [Rows.uptoBulk]
  | ptr d => simp [Rows.uptoBulk]
  | slice elems spare => simp [Rows.uptoBulk]
  | agg parts => simp [Rows.uptoBulk]
  | iface t d => simp [Rows.uptoBulk]
  | map entries => simp [Rows.uptoBulk]
  | held h => simp [Rows.uptoBulk]
theorem bulk_len {H : Type} : ∀ l : List (DataW H), l.length ≤ Rows.uptoBulkAll l
  | [] => by simp [Rows.uptoBulkAll]
  | x :: r => by have := bulk_one x; have := bulk_len r; simp only [Rows.uptoBulkAll, List.length_cons]; omega
theorem bulk_mem {H : Type} {d : DataW H} : ∀ {l : List (DataW H)}, d ∈ l → Rows.uptoBulk d ≤ Rows.uptoBulkAll l
  | x :: r, h => by
    simp only [Rows.uptoBulkAll]
    rcases List.mem_cons.1 h with rfl | h
    · omega
    · have := bulk_mem h; omega
theorem parts_bulk {H : Type} {enc : TypeId × Value → H} {W : World} {base : Nat} {sp : Nat → Bool} {held : Bool} {A : Option Addr} {n c : Nat} {D : DataW H} {p : List MemPlace} (h : DataW.Trod enc Tryd.prog W base sp held 51 (.slice A n c) D p) : n ≤ Rows.uptoBulk D := by
  obtain ⟨fuel, hf⟩ := h
  rcases Deep.open_slice Tryd.underlying51 hf with ⟨h1, h2⟩ | ⟨a, len, cap, m, k, Dd, Pl, h1, _, _, _, _, h2, _⟩
  · have h3 : [Value.slice A n c] = [.slice none 0 0] := h1
    injection h3 with h3 _
    injection h3 with _ h4 _
    omega
  · have h3 : [Value.slice A n c] = [.slice (some a) len cap] := h1
    injection h3 with h3 _
    injection h3 with _ h4 _
    have h5 : D = .slice ((List.range len).map Dd) ((List.range (m - len)).map fun j => Dd (len + j)) := congrArg Prod.fst h2
    have h6 := bulk_len ((List.range len).map Dd)
    rw [h5]
    simp only [Rows.uptoBulk]
    rw [List.length_map, List.length_range] at h6
    omega
end Go.Proofs.YtmdjmbdeeodehaaDoor.G
end
section
set_option linter.unusedVariables false
set_option linter.unusedSimpArgs false
namespace Go.Proofs.YtmdjmbdeeodehaaDoor.G
open Go Go.Proofs Go.RowKit Go.Proofs.YtmdjmbdeeodehaaDoorW.PrintWords
abbrev RRule := S87
def ofR (r : GRule) : RRule := ⟨r.f0, r.f1⟩
theorem rd_at (l : List Int) (i : Nat) (h : i < l.length) : rd l (i : Int) = l[i] := by
  rw [rd, Int.toNat_natCast, List.getD_eq_getElem?_getD, List.getElem?_eq_getElem h]; rfl
theorem ofRule_l0 (l : List Int) (hl : l.length ≤ 1000000) (f0 : Int) : ∀ (d i : Nat), i + d = l.length → Ev (fun k => wickerlaw02_OfRule.l0 k l (l.length : Int) (i : Int) f0 (l.take i)) (f0, l) := by
  intro d
  induction d with
  | zero =>
    intro i hi
    refine Pure.ev_nowS fun k => ?_
    simp only [wickerlaw02_OfRule.l0]
    rw [if_neg (by omega), List.take_of_length_le (by omega)]
  | succ d ih =>
    intro i hi
    refine Ev.step (fun k => ?_) (ih (i + 1) (by omega))
    simp only [wickerlaw02_OfRule.l0]
    rw [if_pos (by omega), if_pos (by omega), if_pos (by omega), if_pos (by rw [List.length_take]; omega), rd_at l i (by omega), ← List.take_succ_eq_append_getElem (by omega), Pure.w64 (by omega) (by omega)]
    rfl
theorem ofRule_f (l : List Int) (hl : l.length ≤ 1000000) (f0 : Int) : Ev (fun k => wickerlaw02_OfRule.f k f0 l) (f0, l) := by
  have := ofRule_l0 l hl f0 l.length 0 (by omega)
  rw [List.take_zero] at this
  exact this
theorem ofRule_calls (f0 : Int) (A : Option Addr) (c : Nat) (l : List Int) (W : World) (hr : Kd.C (Kd.int .i64) W A l.length l) (hc : l.length ≤ c) (hl : l.length ≤ 1000000) :
    Calls Tryd.prog 41 #[.agg #[.int .i64 f0, .slice A l.length c]] W fun e w' => ∃ v : Value, e = .returned (.agg #[.int .i64 f0, v]) ∧ Kd.R (Kd.int .i64) 3 w' W.heap.size (fun _ => True) v l ∧ Below W.heap.size W w' := by
  obtain ⟨K, hK⟩ := Pure.Ev.out (ofRule_f l hl f0)
  exact wickerlaw02_OfRule.calls K f0 A c l f0 l W hr hc (hK K (Nat.le_refl _))
theorem info_ref : (Tryd.prog.info? 87).map (fun i => (i.zero, i.size, i.bytes)) = some (some (.agg #[.int .i64 0, .slice none 0 0]), k87.sz, 32) := by kernel_rfl
structure InO (w : World) (A0 : Option Addr) (c0 : Nat) (l0 : List ByteArray) (A1 : Option Addr) (c1 : Nat) (l1 : List ByteArray) (a2 : Int) (v3 : Value) (xs : List RRule) (W : World) : Prop where
  b2 : W.heap[w.heap.size + 1]? = some (.cells #[.slice none 0 0, .slice none 0 0, .int .i64 0, .slice none 0 0] 63 (0, 0))
  b3 : W.heap[w.heap.size + 1 + 1]? = some (.cells #[.slice A0 l0.length c0, .slice A1 l1.length c1, .int .i64 a2, v3] 63 (0, 0))
  row : Kd.R k87 87 W w.heap.size (fun _ => True) v3 xs
  bel : Below w.heap.size w W
theorem InO.step {w : World} {A0 : Option Addr} {c0 : Nat} {l0 : List ByteArray} {A1 : Option Addr} {c1 : Nat} {l1 : List ByteArray} {a2 : Int} {v3 : Value} {xs : List RRule} {W W' : World} (h : InO w A0 c0 l0 A1 c1 l1 a2 v3 xs W) (hb : Below W.heap.size W W') : InO w A0 c0 l0 A1 c1 l1 a2 v3 xs W' :=
  ⟨blk_below h.b2 hb, blk_below h.b3 hb, Kd.R_below h.row hb, h.bel.trans (hb.mono h.bel.size)⟩
theorem InO.cell {w : World} {A0 : Option Addr} {c0 : Nat} {l0 : List ByteArray} {A1 : Option Addr} {c1 : Nat} {l1 : List ByteArray} {a2 : Int} {v3 : Value} {xs : List RRule} {W : World} (h : InO w A0 c0 l0 A1 c1 l1 a2 v3 xs W) : W.cell? ⟨w.heap.size + 1 + 1, 3, none⟩ = some v3 := (blk_cell h.b3 3).trans rfl
set_option maxHeartbeats 8000000 in
set_option maxRecDepth 100000 in
theorem of_calls (A0 : Option Addr) (c0 : Nat) (l0 : List ByteArray) (A1 : Option Addr) (c1 : Nat) (l1 : List ByteArray) (a2 : Int) (A3 : Option Addr) (c3 : Nat) (l3 : List GRule) (hn : l3.length ≤ 1000000) (hok : l3.all ruleOk = true) (w : World) (hr3 : Kd.C k32 w A3 l3.length l3) :
    Calls Tryd.prog 30 #[.agg #[.slice A0 l0.length c0, .slice A1 l1.length c1, .int .i64 a2, .slice A3 l3.length c3]] w fun e w' => ∃ v3 : Value, e = .returned (.agg #[.slice A0 l0.length c0, .slice A1 l1.length c1, .int .i64 a2, v3]) ∧ Kd.R k87 87 w' w.heap.size (fun _ => True) v3 (l3.map ofR) ∧ Below w.heap.size w w' := by
  have hu := Tryd.underlying25
  have hu2 := Tryd.underlying32
  have hu3 := Tryd.underlying63
  have HOK := Lib.hid hok
  clear hok
  go_enter Tryd.func30, Tryd.ntmps30
  go_wp2_with fail
  go_loopw [16] (fun i wr => ∃ (k : Nat) (v3 : Value), k ≤ l3.length ∧ i = .int .i64 k ∧ InO w A0 c0 l0 A1 c1 l1 a2 v3 ((l3.take k).map ofR) wr) (fun i _ => l3.length - (intOf i).toNat)
  case atStart =>
    refine ⟨0, .slice none 0 0, Nat.zero_le _, rfl, ?_⟩
    have k2 := blk_alloc (blk_new (w.alloc (.cells #[.slice A0 l0.length c0, .slice A1 l1.length c1, .int .i64 a2, .slice A3 l3.length c3] 25)) (.cells #[.slice none 0 0, .slice none 0 0, .int .i64 0, .slice none 0 0] 63)) (.cells #[.slice A0 l0.length c0, .slice A1 l1.length c1, .int .i64 a2, .slice none 0 0] 63)
    have k3 := blk_new ((w.alloc (.cells #[.slice A0 l0.length c0, .slice A1 l1.length c1, .int .i64 a2, .slice A3 l3.length c3] 25)).alloc (.cells #[.slice none 0 0, .slice none 0 0, .int .i64 0, .slice none 0 0] 63)) (.cells #[.slice A0 l0.length c0, .slice A1 l1.length c1, .int .i64 a2, .slice none 0 0] 63)
    exact ⟨by simpa using k2, by simpa using k3, Kd.R_nil _ _ _ _ _, (((Below.refl _ w).alloc (Nat.le_refl _) _).alloc (by simp) _).alloc (by simp; omega) _⟩
  case round =>
    obtain ⟨k, v3, hk, rfl, hI⟩ := hrel
    have hB := hI.bel
    by_cases hlt : k < l3.length
    · obtain ⟨ad, A5, c5, e0, hx0, hx1, hc5, hr5⟩ := at_T32 hr3 (k : Int) (by omega) (by omega)
      subst e0
      obtain ⟨r, hrk⟩ : ∃ r, r = l3[k] := ⟨_, rfl⟩
      have hrd : rd_T32 l3 (k : Int) = r := by rw [hrk, rd_T32, Int.toNat_natCast, List.getD_eq_getElem?_getD, List.getElem?_eq_getElem hlt]; rfl
      rw [hrd] at hx0 hx1 hc5 hr5
      rw [Int.toNat_natCast] at hx0 hx1
      have hy0 : wr.cell? (ad.add (k * 2)) = some (.int .i64 r.f0) := (hB.cell (blk_lt_ hx0)).trans hx0
      have hy1 : wr.cell? ⟨(ad.add (k * 2)).block, (ad.add (k * 2)).off + 1, none⟩ = some (.slice A5 r.f1.length c5) := (hB.cell (blk_lt_ hx1)).trans hx1
      have hro : ruleOk r = true := List.all_eq_true.1 HOK.out r (by rw [hrk]; exact List.getElem_mem _)
      have hlen : r.f1.length ≤ 1000000 := by
        simp only [ruleOk, Bool.and_eq_true, decide_eq_true_eq] at hro
        exact hro.1.2
      have htake : Hid ((l3.take k).map ofR ++ [ofR r] = (l3.take (k + 1)).map ofR) := Lib.hid (by rw [List.take_succ_eq_append_getElem hlt, List.map_append, hrk]; rfl)
      have hxl : ((l3.take k).map ofR).length ≤ 1000000 := by rw [List.length_map, List.length_take]; omega
      generalize hxs : (l3.take k).map ofR = xs at *
      clear hxs hro hrd hrk hx0 hx1
      have hI1 : InO w A0 c0 l0 A1 c1 l1 a2 v3 xs (wr.alloc (.cells #[.int .i64 r.f0, .slice A5 r.f1.length c5] 32)) := hI.step ((Below.refl _ _).alloc (Nat.le_refl _) _)
      have hbr := blk_new wr (.cells #[.int .i64 r.f0, .slice A5 r.f1.length c5] 32)
      obtain ⟨rb, hrb⟩ : ∃ rb, wr.heap.size = rb := ⟨_, rfl⟩
      rw [hrb] at hbr
      go_wp2_with fail
      clear hrb
      have HR5 := Lib.hid hr5
      have hws : w.heap.size ≤ wr.heap.size := hB.size
      generalize wr.alloc (.cells #[.int .i64 r.f0, .slice A5 r.f1.length c5] 32) = w1 at *
      clear hy0 hy1 hI hB hr5
      have hIB1 : InO w A0 c0 l0 A1 c1 l1 a2 v3 xs w1.drew := hI1.step (Below.refl _ _).drew
      have hbr1 : w1.drew.heap[rb]? = some (.cells #[.int .i64 r.f0, .slice A5 r.f1.length c5] 32 (0, 0)) := hbr
      have hz0 := hIB1.cell
      have hz1 : w1.drew.cell? ⟨rb, 0, none⟩ = some (.int .i64 r.f0) := (blk_cell hbr1 0).trans rfl
      have hz2 : w1.drew.cell? ⟨rb, 1, none⟩ = some (.slice A5 r.f1.length c5) := (blk_cell hbr1 1).trans rfl
      go_region_law
        (first | (go_simp; go_at_call 41; (with_reducible refine (ofRule_calls r.f0 A5 c5 r.f1 _ ?_ hc5 hlen).mono ?_); (exact Kd.C_below HR5.out hIB1.bel); rintro e w2 ⟨u1, rfl, hR2, hb2⟩; have hI2 := hIB1.step hb2; have hk0 := hI2.cell; have hbr2 := blk_below hbr1 hb2; have hk1 : w2.cell? ⟨rb, 0, none⟩ = some (.int .i64 r.f0) := (blk_cell hbr2 0).trans rfl; have hk2 : w2.cell? ⟨rb, 1, none⟩ = some (.slice A5 r.f1.length c5) := (blk_cell hbr2 1).trans rfl; have hP : k87.M w2 w.heap.size (fun k => True ∧ some k ≠ v3.ownBlock) (ofR r) [.int .i64 r.f0, u1] := k87_mkM w2 w.heap.size _ (ofR r) (Kd.R_apart' (Kd.R_lower hR2 hIB1.bel.size) (Kd.R_typed hI2.row) (by decide)); have hI3 := hI2.step (W' := (w2.alloc (.cells #[.int .i64 r.f0, u1] 87))) ((Below.refl _ _).alloc (Nat.le_refl _) _); have hm0 := hI3.cell; have hbr3 := blk_alloc hbr2 (.cells #[.int .i64 r.f0, u1] 87); have hm1 : (w2.alloc (.cells #[.int .i64 r.f0, u1] 87)).cell? ⟨rb, 0, none⟩ = some (.int .i64 r.f0) := (blk_cell hbr3 0).trans rfl; have hm2 : (w2.alloc (.cells #[.int .i64 r.f0, u1] 87)).cell? ⟨rb, 1, none⟩ = some (.slice A5 r.f1.length c5) := (blk_cell hbr3 1).trans rfl) | (refine Kd.R_append_step k87 (w0 := w) (W := w2) w.heap.size (by rfl) (.tmp 21) (.tmp 24) 61 87 (.agg #[.int .i64 0, .slice none 0 0]) 32 (by rfl) Tryd.underlying61 info_ref (by rfl) (by decide) (by omega) v3 xs (ofR r) [.int .i64 r.f0, u1] (fun _ => True) (fun k => True ∧ some k ≠ v3.ownBlock) (by rfl) (by rfl) hP (fun _ hk => hk) (fun _ _ => trivial) hI2.row hI2.bel hI2.bel.size (by omega) ?_; intro v4 w4 ho4 hb4 hg4 hat4; obtain ⟨Ao4, co4, eo4⟩ := Kd.R_slice ho4; subst eo4; have hn3 := blk_grown hI2.b3 hg4 (Kd.R_ne hI2.row hI2.b3 (by decide)); have hn2 := blk_grown hI2.b2 hg4 (Kd.R_ne hI2.row hI2.b2 (by decide)); have hnr := blk_grown hbr2 hg4 (Kd.R_ne hI2.row hbr2 (by decide)); have hq0 : w4.cell? ⟨w.heap.size + 1 + 1, 3, none⟩ = some v3 := (blk_cell hn3 3).trans rfl; have hq1 : w4.cell? ⟨rb, 0, none⟩ = some (.int .i64 r.f0) := (blk_cell hnr 0).trans rfl; have hq2 : w4.cell? ⟨rb, 1, none⟩ = some (.slice A5 r.f1.length c5) := (blk_cell hnr 1).trans rfl; have hqf := blk_frozen hn3 3))
      all_goals
        have hIn : InO w A0 c0 l0 A1 c1 l1 a2 (.slice Ao4 (xs.length + 1) co4) ((l3.take (k + 1)).map ofR) (w4.setCell ⟨w.heap.size + 1 + 1, 3, none⟩ (.slice Ao4 (xs.length + 1) co4)) := by
          rw [List.length_append, List.length_singleton] at ho4
          rw [← htake.out]
          exact ⟨blk_far hn2 (Nat.ne_of_lt (Nat.lt_succ_self _)) _, blk_put (cs := #[.slice A0 l0.length c0, .slice A1 l1.length c1, .int .i64 a2, v3]) hn3 3 _ rfl, Kd.R_mono (Kd.R_far (p := ⟨w.heap.size + 1 + 1, 3, none⟩) (Kd.R_types ho4 hn3 (by decide)) (fun _ hk => hk.2) _) (fun _ _ => trivial), hb4.setCell (by show w.heap.size ≤ w.heap.size + 1 + 1; omega) _⟩
        clear hIB1 hbr1 hz0 hz1 hz2 hI2 hk0 hbr2 hk1 hk2 hP hI3 hm0 hbr3 hm1 hm2 ho4 hb4 hg4 hat4 hn3 hn2 hnr hq0 hq1 hq2 hqf hI1 hbr hR2 hb2 htake
        go_wp2
        go_roundw
        case rel => exact ⟨k + 1, _, by omega, by go_num, hIn⟩
        case measure => simp [intOf]; omega
    · obtain rfl : k = l3.length := by omega
      rw [List.take_length] at hI
      have h20 : wr.cell? ⟨w.heap.size + 1, 0, none⟩ = some (.slice none 0 0) := (blk_cell hI.b2 0).trans rfl
      have h21 : wr.cell? ⟨w.heap.size + 1, 1, none⟩ = some (.slice none 0 0) := (blk_cell hI.b2 1).trans rfl
      have h22 : wr.cell? ⟨w.heap.size + 1, 2, none⟩ = some (.int .i64 0) := (blk_cell hI.b2 2).trans rfl
      have h23 : wr.cell? ⟨w.heap.size + 1, 3, none⟩ = some (.slice none 0 0) := (blk_cell hI.b2 3).trans rfl
      have h30 : wr.cell? ⟨w.heap.size + 1 + 1, 0, none⟩ = some (.slice A0 l0.length c0) := (blk_cell hI.b3 0).trans rfl
      have h31 : wr.cell? ⟨w.heap.size + 1 + 1, 1, none⟩ = some (.slice A1 l1.length c1) := (blk_cell hI.b3 1).trans rfl
      have h32 : wr.cell? ⟨w.heap.size + 1 + 1, 2, none⟩ = some (.int .i64 a2) := (blk_cell hI.b3 2).trans rfl
      have h33 : wr.cell? ⟨w.heap.size + 1 + 1, 3, none⟩ = some v3 := (blk_cell hI.b3 3).trans rfl
      have f0 := blk_frozen hI.b2 0
      have f1 := blk_frozen hI.b2 1
      have f2 := blk_frozen hI.b2 2
      have f3 := blk_frozen hI.b2 3
      obtain ⟨Ao, co, hv3⟩ := Kd.R_slice hI.row
      rw [List.length_map] at hv3
      subst hv3
      go_wp2_with fail
      have hrow := Kd.R_far (p := ⟨w.heap.size + 1, 0, none⟩) (Kd.R_types hI.row hI.b2 (by decide)) (fun _ hk => hk.2) (.slice A0 l0.length c0)
      have hrow1 := Kd.R_far (p := ⟨w.heap.size + 1, 1, none⟩) hrow (fun _ hk => hk.2) (.slice A1 l1.length c1)
      have hrow2 := Kd.R_far (p := ⟨w.heap.size + 1, 2, none⟩) hrow1 (fun _ hk => hk.2) (.int .i64 a2)
      have hrow3 := Kd.R_far (p := ⟨w.heap.size + 1, 3, none⟩) hrow2 (fun _ hk => hk.2) (.slice Ao l3.length co)
      refine bodyPost_ret (results_cell_row rfl _ _ (w.heap.size + 1) 63 #[.slice A0 l0.length c0, .slice A1 l1.length c1, .int .i64 a2, .slice Ao l3.length co] (0, 0) _ rfl (by
        refine blk_put (cs := #[.slice A0 l0.length c0, .slice A1 l1.length c1, .int .i64 a2, .slice none 0 0]) ?_ 3 _ rfl
        refine blk_put (cs := #[.slice A0 l0.length c0, .slice A1 l1.length c1, .int .i64 0, .slice none 0 0]) ?_ 2 _ rfl
        refine blk_put (cs := #[.slice A0 l0.length c0, .slice none 0 0, .int .i64 0, .slice none 0 0]) ?_ 1 _ rfl
        refine blk_put (cs := #[.slice none 0 0, .slice none 0 0, .int .i64 0, .slice none 0 0]) ?_ 0 _ rfl
        exact hI.b2) Tryd.underlying63 rfl (by kernel_rfl)) rfl ?_
      have hS := hI.bel
      exact ⟨_, rfl, Kd.R_mono hrow3 (fun _ _ => trivial), (((hS.setCell (Nat.le_succ _) _).setCell (Nat.le_succ _) _).setCell (Nat.le_succ _) _).setCell (Nat.le_succ _) _⟩
end Go.Proofs.YtmdjmbdeeodehaaDoor.G
end
section
namespace Go.Proofs.YtmdjmbdeeodehaaDoor.G
open Go.RowKit Go.Proofs.YtmdjmbdeeodehaaDoorW.PrintWords Go.Proofs.YtmdjmbdeeodehaaDoorW.PrintLast Go.Proofs.YtmdjmbdeeodehaaDoorW.PrintMore
attribute [local go_sem] max2_int min2_int max_two min_two max_three min_three max_four min_four
attribute [local go_sem] Go.Proofs.YtmdjmbdeeodehaaDoorOwn.isSome_setCell
set_option linter.unusedVariables false
set_option linter.unusedSimpArgs false
mutual
def tree_Count.l0 : Nat → Int → List (S55) → Int → Int → Option (Int)
 | 0, _, _, _, _ => none
 | k + 1, x3, x7, x8, x9 => if x9 < x8 then (if 0 ≤ x9 then (if x9 < (x7.length : Int) then ((tree_Count.f k ((rd_T55 x7 x9).f0) ((rd_T55 x7 x9).f1) ((rd_T55 x7 x9).f2)).bind fun t104 => (tree_Count.l0 k (wrap64 (x3 + t104)) x7 x8 (wrap64 (x9 + 1)))) else (none)) else (none)) else (some x3)
def tree_Count.f : Nat → Int → Int → List (S55) → Option (Int)
 | 0, _, _, _ => none
 | k + 1, a0_0, a0_1, l0_2 => tree_Count.l0 k 1 l0_2 (l0_2.length : Int) 0
end
set_option maxHeartbeats 8000000 in
set_option maxRecDepth 100000 in
theorem tree_Count.calls (k : Nat) : ∀ (a0_0 : Int) (a0_1 : Int) (A0_2 : Option Addr) (c0_2 : Nat) (l0_2 : List (S55)) (r : Int) (w : World) (hr0_2 : Kd.C k55 w A0_2 l0_2.length l0_2) (hc0_2 : l0_2.length ≤ c0_2) (h : tree_Count.f k a0_0 a0_1 l0_2 = some r),
  Calls Tryd.prog 56 #[.agg #[.int .i64 a0_0, .int .i64 a0_1, .slice A0_2 l0_2.length c0_2]] w fun e w' => e = .returned (.int .i64 r) ∧ Below w.heap.size w w' := by
 induction k using Nat.strongRecOn with
 | _ k ih =>
 intro a0_0 a0_1 A0_2 c0_2 l0_2 r w hr0_2 hc0_2 h
 cases k with
 | zero => exact absurd h (by simp [tree_Count.f])
 | succ k =>
 simp only [tree_Count.f] at h
 have hu55 := Tryd.underlying55
 have HR0_2 := Aside0.mk hr0_2
 have HC0_2 := Aside0.mk hc0_2
 clear hr0_2 hc0_2
 have HB := Aside0.mk (Below.refl w.heap.size w)
 have H : (tree_Count.l0 k 1 l0_2 (l0_2.length : Int) 0) = some r := h
 clear h
 have H' := Aside0.mk H
 clear H
 go_enter Tryd.func56, Tryd.ntmps56
 go_wp2_with (first | ((with_reducible refine gate_dst (N := 1) rfl ?_); refine box_event ?hg (N := 1) ?hd (cs := #[.int .i64 a0_0, .int .i64 a0_1, .slice A0_2 l0_2.length c0_2]) (t := 55) ?hr ?_; (case hd => rfl); (case hg => rfl); (case hr => first | (go_simp; done) | (go_simp; rfl)); intro gb101 hg w2 hbox hb; have n0_ := Aside0.mk (below_step (by repeat (first | (with_reducible first | exact HB.out | apply below_alloc | apply pw_below_drewN | apply below_drew1) | exact HB.out)) hb); have n1_ := Aside0.mk (hbox); have n2_ := Aside0.mk ((by rw [hg]; exact (below_size (by repeat (first | (with_reducible first | exact HB.out | apply below_alloc | apply pw_below_drewN | apply below_drew1) | exact HB.out))) : w.heap.size ≤ gb101)); have n3_ := Aside0.mk ((by rw [hg]; exact (below_size (by repeat (first | (with_reducible first | exact HB.out | apply below_alloc | apply pw_below_drewN | apply below_drew1) | exact HB.out))) : w.heap.size ≤ gb101)); clear HB; have HB := n0_; have BK101 := n1_; have GW101 := n2_; have GE101 := n3_; clear n0_ n1_ n2_ n3_; clear hb hbox hg; have hcz3_0 : w2.cell? ⟨gb101, 0, none⟩ = some (.int .i64 a0_0) := (blk_cell BK101.out 0).trans rfl; have hcz3_1 : w2.cell? ⟨gb101, 1, none⟩ = some (.int .i64 a0_1) := (blk_cell BK101.out 1).trans rfl; have hcz3_2 : w2.cell? ⟨gb101, 2, none⟩ = some (.slice A0_2 l0_2.length c0_2) := (blk_cell BK101.out 2).trans rfl; have hfz3_0 := blk_frozen BK101.out 0; have hfz3_1 := blk_frozen BK101.out 1; have hfz3_2 := blk_frozen BK101.out 2))
 go_loopg [3, 9] k (fun kq v3 v9 w' => ∃ (x3_1 : Int) (x9_1 : Int), v3 = .int .i64 x3_1 ∧ v9 = .int .i64 x9_1 ∧ Aside0 (tree_Count.l0 kq x3_1 l0_2 (l0_2.length : Int) x9_1 = some r) ∧ Aside0 (kq ≤ k) ∧ Aside0 (w'.heap[gb101]? = some (.cells #[.int .i64 a0_0, .int .i64 a0_1, (.slice A0_2 l0_2.length c0_2)] 55 (0, 0))) ∧ Aside0 (Below w.heap.size w w'))
 case atStart => exact ⟨(1), (0), (by first | rfl | (simp; done) | (simp [*]; done)), (by first | rfl | (simp; done) | (simp [*]; done)), H', ⟨Nat.le_refl _⟩, ⟨by (with_reducible repeat (first | refine blk_drewN ?_ _ | refine blk_drew ?_ | refine blk_alloc ?_ _)); exact BK101.out⟩, ⟨by repeat (first | (with_reducible first | exact HB.out | apply below_alloc | apply pw_below_drewN | apply below_drew1 | refine below_set ?_ GE101.out) | exact HB.out)⟩⟩
 case round =>
  clear H'
  try clear p2
  try clear hcz3_0
  try clear hcz3_1
  try clear hcz3_2
  try clear hfz3_0
  try clear hfz3_1
  try clear hfz3_2
  obtain ⟨x3_1, x9_1, rfl, rfl, HA, HK1, BK101, HB⟩ := hrel
  cases gk with
  | zero => exact absurd HA.out (by simp [tree_Count.l0])
  | succ k1 =>
   have H := HA.out
   clear HA
   simp only [tree_Count.l0] at H
   by_cases c4 : x9_1 < (l0_2.length : Int)
   ·rw [if_pos c4] at H
    have c4b0 : decide (x9_1 < (l0_2.length : Int)) = true := decide_eq_true c4
    clear c4
    by_cases c5 : 0 ≤ x9_1
    ·rw [if_pos c5] at H
     have c5b0 : decide (0 ≤ x9_1) = true := decide_eq_true c5
     clear c5
     by_cases c6 : x9_1 < (l0_2.length : Int)
     ·rw [if_pos c6] at H
      have c6b0 : decide (x9_1 < (l0_2.length : Int)) = true := decide_eq_true c6
      clear c6
      replace H := Option.bind_eq_some_iff.mp H
      obtain ⟨t104, A70, H⟩ := H
      replace H : (tree_Count.l0 k1 (wrap64 (x3_1 + t104)) l0_2 (l0_2.length : Int) (wrap64 (x9_1 + 1))) = some r := H
      have A7 := Aside0.mk A70
      clear A70
      have H' := Aside0.mk H
      clear H
      have p102 : 0 ≤ (x9_1 : Int) := of_decide_eq_true (by first | (with_reducible assumption) | assumption)
      have q102 : x9_1 < (l0_2.length : Int) := of_decide_eq_true (by first | (with_reducible assumption) | assumption)
      obtain ⟨ad102, A102_2, c102_2, e102, hx102_0, hx102_1, hx102_2, hl102_2, hi102_2⟩ := at_T55 HR0_2.out x9_1 p102 q102
      cases e102
      replace hx102_0 := (HB.out.cell (World.block_lt_of_cell? w _ hx102_0)).trans hx102_0
      replace hx102_1 := (HB.out.cell (World.block_lt_of_cell? w _ hx102_1)).trans hx102_1
      replace hx102_2 := (HB.out.cell (World.block_lt_of_cell? w _ hx102_2)).trans hx102_2
      have HR102_2 := Aside0.mk hi102_2
      have HC102_2 := Aside0.mk hl102_2
      clear hi102_2 hl102_2
      replace p102 := eq_true p102
      replace q102 := eq_true q102
      go_wp2_with (first | ((with_reducible refine gate_dst (N := 5) rfl ?_); refine box_event ?hg (N := 5) ?hd (cs := #[.int .i64 0, .int .i64 0, .slice none 0 0]) (t := 55) ?hr ?_; (case hd => rfl); (case hg => rfl); (case hr => first | (go_simp; done) | (go_simp; rfl)); intro gb103 hg w8 hbox hb; have n0_ := Aside0.mk (blk_below (g := gb101) (o := .cells #[.int .i64 a0_0, .int .i64 a0_1, .slice (some ad102) l0_2.length c0_2] 55 (0, 0)) (by (with_reducible repeat (first | refine blk_drewN ?_ _ | refine blk_drew ?_ | refine blk_alloc ?_ _)); exact BK101.out) hb); have n1_ := Aside0.mk (below_step (by repeat (first | (with_reducible first | exact HB.out | apply below_alloc | apply pw_below_drewN | apply below_drew1 | refine below_set ?_ GE101.out) | exact HB.out)) hb); have n2_ := Aside0.mk (hbox); have n3_ := Aside0.mk ((by rw [hg]; exact (below_size (by repeat (first | (with_reducible first | exact HB.out | apply below_alloc | apply pw_below_drewN | apply below_drew1 | refine below_set ?_ GE101.out) | exact HB.out))) : w.heap.size ≤ gb103)); have n4_ := Aside0.mk ((by rw [hg]; exact (below_size (by repeat (first | (with_reducible first | exact HB.out | apply below_alloc | apply pw_below_drewN | apply below_drew1 | refine below_set ?_ GE101.out) | exact HB.out))) : w.heap.size ≤ gb103)); have n5_ := Aside0.mk ((by rw [hg]; exact Nat.ne_of_lt (blk_lt (g := gb101) (o := .cells #[.int .i64 a0_0, .int .i64 a0_1, .slice (some ad102) l0_2.length c0_2] 55 (0, 0)) (by (with_reducible repeat (first | refine blk_drewN ?_ _ | refine blk_drew ?_ | refine blk_alloc ?_ _)); exact BK101.out)) : gb101 ≠ gb103)); have n6_ := Aside0.mk ((by rw [hg]; exact Nat.ne_of_gt (blk_lt (g := gb101) (o := .cells #[.int .i64 a0_0, .int .i64 a0_1, .slice (some ad102) l0_2.length c0_2] 55 (0, 0)) (by (with_reducible repeat (first | refine blk_drewN ?_ _ | refine blk_drew ?_ | refine blk_alloc ?_ _)); exact BK101.out)) : gb103 ≠ gb101)); clear BK101; clear HB; have BK101 := n0_; have HB := n1_; have BK103 := n2_; have GW103 := n3_; have GE103 := n4_; have NB101_103 := n5_; have NB103_101 := n6_; clear n0_ n1_ n2_ n3_ n4_ n5_ n6_; clear hb hbox hg; have hnb9 := NB103_101.out; have hnc9 := NB101_103.out; have hcz10_0 : w8.cell? ⟨gb103, 0, none⟩ = some (.int .i64 0) := (blk_cell BK103.out 0).trans rfl; have hcz10_1 : w8.cell? ⟨gb103, 1, none⟩ = some (.int .i64 0) := (blk_cell BK103.out 1).trans rfl; have hcz10_2 : w8.cell? ⟨gb103, 2, none⟩ = some (.slice none 0 0) := (blk_cell BK103.out 2).trans rfl; have hfz10_0 := blk_frozen BK103.out 0; have hfz10_1 := blk_frozen BK103.out 1; have hfz10_2 := blk_frozen BK103.out 2) | ((with_reducible refine gate_callee (f := 56) rfl ?_); refine goesL_ (some 15) rfl rfl Tryd.func56 (by kernel_rfl) rfl #[.agg #[.int .i64 ((rd_T55 l0_2 x9_1).f0), .int .i64 ((rd_T55 l0_2 x9_1).f1), .slice A102_2 ((rd_T55 l0_2 x9_1).f2).length c102_2]] rfl (by (try simp only [List.map_toArray, List.map_cons, List.map_nil]); first | done | rfl | (simp only [List.length_drop, List.length_take]; rfl)) ?_; (with_reducible refine (ih k1 (by have := HK1.out; omega) ((rd_T55 l0_2 x9_1).f0) ((rd_T55 l0_2 x9_1).f1) _ _ ((rd_T55 l0_2 x9_1).f2) t104 _ ?side1 ?side2 A7.out).mono ?_); (case side1 => exact Kd.C_below HR102_2.out (by repeat (first | (with_reducible first | exact HB.out | apply below_alloc | apply pw_below_drewN | apply below_drew1 | refine below_set ?_ GE101.out | refine below_set ?_ GE103.out) | exact HB.out))); (case side2 => exact HC102_2.out); rintro e w11 ⟨rfl, hb⟩; refine ⟨_, rfl, ?_⟩; have n0_ := Aside0.mk (blk_below (g := gb101) (o := .cells #[.int .i64 a0_0, .int .i64 a0_1, .slice (some ad102) l0_2.length c0_2] 55 (0, 0)) (by (with_reducible repeat (first | refine blk_drewN ?_ _ | refine blk_drew ?_ | refine blk_alloc ?_ _)); refine blk_far ?_ NB101_103.out _; (with_reducible repeat (first | refine blk_drewN ?_ _ | refine blk_drew ?_ | refine blk_alloc ?_ _)); refine blk_far ?_ NB101_103.out _; (with_reducible repeat (first | refine blk_drewN ?_ _ | refine blk_drew ?_ | refine blk_alloc ?_ _)); refine blk_far ?_ NB101_103.out _; (with_reducible repeat (first | refine blk_drewN ?_ _ | refine blk_drew ?_ | refine blk_alloc ?_ _)); exact BK101.out) hb); have n1_ := Aside0.mk (blk_below (g := gb103) (o := .cells #[.int .i64 ((rd_T55 l0_2 x9_1).f0), .int .i64 ((rd_T55 l0_2 x9_1).f1), .slice A102_2 ((rd_T55 l0_2 x9_1).f2).length c102_2] 55 (0, 0)) (by (with_reducible repeat (first | refine blk_drewN ?_ _ | refine blk_drew ?_ | refine blk_alloc ?_ _)); refine blk_put (cs := #[.int .i64 ((rd_T55 l0_2 x9_1).f0), .int .i64 ((rd_T55 l0_2 x9_1).f1), .slice none 0 0]) ?_ 2 _ rfl; (with_reducible repeat (first | refine blk_drewN ?_ _ | refine blk_drew ?_ | refine blk_alloc ?_ _)); refine blk_put (cs := #[.int .i64 ((rd_T55 l0_2 x9_1).f0), .int .i64 0, .slice none 0 0]) ?_ 1 _ rfl; (with_reducible repeat (first | refine blk_drewN ?_ _ | refine blk_drew ?_ | refine blk_alloc ?_ _)); refine blk_put (cs := #[.int .i64 0, .int .i64 0, .slice none 0 0]) ?_ 0 _ rfl; (with_reducible repeat (first | refine blk_drewN ?_ _ | refine blk_drew ?_ | refine blk_alloc ?_ _)); exact BK103.out) hb); have n2_ := Aside0.mk (below_step (by repeat (first | (with_reducible first | exact HB.out | apply below_alloc | apply pw_below_drewN | apply below_drew1 | refine below_set ?_ GE101.out | refine below_set ?_ GE103.out) | exact HB.out)) hb); clear BK101; clear BK103; clear HB; have BK101 := n0_; have BK103 := n1_; have HB := n2_; clear n0_ n1_ n2_; (try clear hb); (try clear hb2); (try clear hk); (try clear hi)))
      go_roundg k1
      case measure => have := HK1.out; omega
      case rel => exact ⟨(wrap64 (x3_1 + t104)), (wrap64 (x9_1 + 1)), (by first | rfl | (simp; done) | (simp [*]; done)), (by first | rfl | (simp; done) | (simp [*]; done)), H', ⟨by have := HK1.out; omega⟩, ⟨by (with_reducible repeat (first | refine blk_drewN ?_ _ | refine blk_drew ?_ | refine blk_alloc ?_ _)); exact BK101.out⟩, ⟨by repeat (first | (with_reducible first | exact HB.out | apply below_alloc | apply pw_below_drewN | apply below_drew1 | refine below_set ?_ GE101.out | refine below_set ?_ GE103.out) | exact HB.out)⟩⟩
     ·rw [if_neg c6] at H
      exact absurd H (by simp)
    ·rw [if_neg c5] at H
     exact absurd H (by simp)
   ·rw [if_neg c4] at H
    have c4b0 : decide (x9_1 < (l0_2.length : Int)) = false := decide_eq_false c4
    clear c4
    obtain rfl := Option.some.inj H
    go_wp2
    go_ret
    exact ⟨by first | rfl | (simp [errW_none, errW_some] <;> rfl) | (simp [*, errW_none, errW_some] <;> rfl), by repeat (first | (with_reducible first | exact HB.out | apply below_alloc | apply pw_below_drewN | apply below_drew1 | refine below_set ?_ GE101.out) | exact HB.out)⟩
def tree_Tree_leaf.f (a0_0 : Int) (a0_1 : Int) (l0_2 : List (S55)) : Option (Bool) := some (decide (a0_0 < 0))
set_option maxHeartbeats 8000000 in
set_option maxRecDepth 100000 in
theorem tree_Tree_leaf.calls (a0_0 : Int) (a0_1 : Int) (A0_2 : Option Addr) (c0_2 : Nat) (l0_2 : List (S55)) (r : Bool) (w : World) (hr0_2 : Kd.C k55 w A0_2 l0_2.length l0_2) (hc0_2 : l0_2.length ≤ c0_2) (h : tree_Tree_leaf.f a0_0 a0_1 l0_2 = some r) :
  Calls Tryd.prog 100 #[.agg #[.int .i64 a0_0, .int .i64 a0_1, .slice A0_2 l0_2.length c0_2]] w fun e w' => e = .returned (.bool r) ∧ Below w.heap.size w w' := by
 have hu55 := Tryd.underlying55
 have HR0_2 := Aside0.mk hr0_2
 have HC0_2 := Aside0.mk hc0_2
 clear hr0_2 hc0_2
 have HB := Aside0.mk (Below.refl w.heap.size w)
 have H : (some (decide (a0_0 < 0))) = some r := h
 clear h
 obtain rfl := Option.some.inj H
 go_enter Tryd.func100, Tryd.ntmps100
 go_wp2_with (first | ((with_reducible refine gate_dst (N := 1) rfl ?_); refine box_event ?hg (N := 1) ?hd (cs := #[.int .i64 a0_0, .int .i64 a0_1, .slice A0_2 l0_2.length c0_2]) (t := 55) ?hr ?_; (case hd => rfl); (case hg => rfl); (case hr => first | (go_simp; done) | (go_simp; rfl)); intro gb101 hg w2 hbox hb; have n0_ := Aside0.mk (below_step (by repeat (first | (with_reducible first | exact HB.out | apply below_alloc | apply pw_below_drewN | apply below_drew1) | exact HB.out)) hb); have n1_ := Aside0.mk (hbox); have n2_ := Aside0.mk ((by rw [hg]; exact (below_size (by repeat (first | (with_reducible first | exact HB.out | apply below_alloc | apply pw_below_drewN | apply below_drew1) | exact HB.out))) : w.heap.size ≤ gb101)); have n3_ := Aside0.mk ((by rw [hg]; exact (below_size (by repeat (first | (with_reducible first | exact HB.out | apply below_alloc | apply pw_below_drewN | apply below_drew1) | exact HB.out))) : w.heap.size ≤ gb101)); clear HB; have HB := n0_; have BK101 := n1_; have GW101 := n2_; have GE101 := n3_; clear n0_ n1_ n2_ n3_; clear hb hbox hg; have hcz3_0 : w2.cell? ⟨gb101, 0, none⟩ = some (.int .i64 a0_0) := (blk_cell BK101.out 0).trans rfl; have hcz3_1 : w2.cell? ⟨gb101, 1, none⟩ = some (.int .i64 a0_1) := (blk_cell BK101.out 1).trans rfl; have hcz3_2 : w2.cell? ⟨gb101, 2, none⟩ = some (.slice A0_2 l0_2.length c0_2) := (blk_cell BK101.out 2).trans rfl; have hfz3_0 := blk_frozen BK101.out 0; have hfz3_1 := blk_frozen BK101.out 1; have hfz3_2 := blk_frozen BK101.out 2))
 go_ret
 exact ⟨by first | rfl | (simp [errW_none, errW_some] <;> rfl) | (simp [*, errW_none, errW_some] <;> rfl), by repeat (first | (with_reducible first | exact HB.out | apply below_alloc | apply pw_below_drewN | apply below_drew1 | refine below_set ?_ GE101.out) | exact HB.out)⟩
def tree_leafWrong.f (a0_0 : Int) (a0_1 : Int) (l0_2 : List (S55)) : Option (Int) := if a0_0 = (-1) then (if (l0_2.length : Int) > 0 then (some 9) else (some 0)) else (some 9)
set_option maxHeartbeats 8000000 in
set_option maxRecDepth 100000 in
theorem tree_leafWrong.calls (a0_0 : Int) (a0_1 : Int) (A0_2 : Option Addr) (c0_2 : Nat) (l0_2 : List (S55)) (r : Int) (w : World) (hr0_2 : Kd.C k55 w A0_2 l0_2.length l0_2) (hc0_2 : l0_2.length ≤ c0_2) (h : tree_leafWrong.f a0_0 a0_1 l0_2 = some r) :
  Calls Tryd.prog 102 #[.agg #[.int .i64 a0_0, .int .i64 a0_1, .slice A0_2 l0_2.length c0_2]] w fun e w' => e = .returned (.int .i64 r) ∧ Below w.heap.size w w' := by
 have hu55 := Tryd.underlying55
 have HR0_2 := Aside0.mk hr0_2
 have HC0_2 := Aside0.mk hc0_2
 clear hr0_2 hc0_2
 have HB := Aside0.mk (Below.refl w.heap.size w)
 have H : (if a0_0 = (-1) then (if (l0_2.length : Int) > 0 then (some 9) else (some 0)) else (some 9)) = some r := h
 clear h
 by_cases c2 : a0_0 = (-1)
 ·rw [if_pos c2] at H
  have c2b0 : (a0_0 == (-1)) = true := beq_iff_eq.mpr c2
  have c2b1 : (a0_0 != (-1)) = false := bne_eq_false_iff_eq.mpr c2
  clear c2
  by_cases c3 : (l0_2.length : Int) > 0
  ·rw [if_pos c3] at H
   have c3b0 : decide (0 < (l0_2.length : Int)) = true := decide_eq_true c3
   have c3b1 : decide (0 < l0_2.length) = true := decide_eq_true (by omega)
   clear c3
   obtain rfl := Option.some.inj H
   go_enter Tryd.func102, Tryd.ntmps102
   go_wp2_with (first | ((with_reducible refine gate_dst (N := 1) rfl ?_); (try (refine gate_guard (by rfl) ?_; dsimp only)); refine box_event ?hg (N := 1) ?hd (cs := #[.int .i64 a0_0, .int .i64 a0_1, .slice A0_2 l0_2.length c0_2]) (t := 55) ?hr ?_; (case hd => rfl); (case hg => rfl); (case hr => first | (go_simp; done) | (go_simp; rfl)); intro gb101 hg w4 hbox hb; have n0_ := Aside0.mk (below_step (by repeat (first | (with_reducible first | exact HB.out | apply below_alloc | apply pw_below_drewN | apply below_drew1) | exact HB.out)) hb); have n1_ := Aside0.mk (hbox); have n2_ := Aside0.mk ((by rw [hg]; exact (below_size (by repeat (first | (with_reducible first | exact HB.out | apply below_alloc | apply pw_below_drewN | apply below_drew1) | exact HB.out))) : w.heap.size ≤ gb101)); have n3_ := Aside0.mk ((by rw [hg]; exact (below_size (by repeat (first | (with_reducible first | exact HB.out | apply below_alloc | apply pw_below_drewN | apply below_drew1) | exact HB.out))) : w.heap.size ≤ gb101)); clear HB; have HB := n0_; have BK101 := n1_; have GW101 := n2_; have GE101 := n3_; clear n0_ n1_ n2_ n3_; clear hb hbox hg; have hcz5_0 : w4.cell? ⟨gb101, 0, none⟩ = some (.int .i64 a0_0) := (blk_cell BK101.out 0).trans rfl; have hcz5_1 : w4.cell? ⟨gb101, 1, none⟩ = some (.int .i64 a0_1) := (blk_cell BK101.out 1).trans rfl; have hcz5_2 : w4.cell? ⟨gb101, 2, none⟩ = some (.slice A0_2 l0_2.length c0_2) := (blk_cell BK101.out 2).trans rfl; have hfz5_0 := blk_frozen BK101.out 0; have hfz5_1 := blk_frozen BK101.out 1; have hfz5_2 := blk_frozen BK101.out 2))
   go_ret
   exact ⟨by first | rfl | (simp [errW_none, errW_some] <;> rfl) | (simp [*, errW_none, errW_some] <;> rfl), by repeat (first | (with_reducible first | exact HB.out | apply below_alloc | apply pw_below_drewN | apply below_drew1 | refine below_set ?_ GE101.out) | exact HB.out)⟩
  ·rw [if_neg c3] at H
   have c3b0 : decide (0 < (l0_2.length : Int)) = false := decide_eq_false c3
   have c3b1 : decide (0 < l0_2.length) = false := decide_eq_false (by omega)
   clear c3
   obtain rfl := Option.some.inj H
   go_enter Tryd.func102, Tryd.ntmps102
   go_wp2_with (first | ((with_reducible refine gate_dst (N := 1) rfl ?_); (try (refine gate_guard (by rfl) ?_; dsimp only)); refine box_event ?hg (N := 1) ?hd (cs := #[.int .i64 a0_0, .int .i64 a0_1, .slice A0_2 l0_2.length c0_2]) (t := 55) ?hr ?_; (case hd => rfl); (case hg => rfl); (case hr => first | (go_simp; done) | (go_simp; rfl)); intro gb101 hg w6 hbox hb; have n0_ := Aside0.mk (below_step (by repeat (first | (with_reducible first | exact HB.out | apply below_alloc | apply pw_below_drewN | apply below_drew1) | exact HB.out)) hb); have n1_ := Aside0.mk (hbox); have n2_ := Aside0.mk ((by rw [hg]; exact (below_size (by repeat (first | (with_reducible first | exact HB.out | apply below_alloc | apply pw_below_drewN | apply below_drew1) | exact HB.out))) : w.heap.size ≤ gb101)); have n3_ := Aside0.mk ((by rw [hg]; exact (below_size (by repeat (first | (with_reducible first | exact HB.out | apply below_alloc | apply pw_below_drewN | apply below_drew1) | exact HB.out))) : w.heap.size ≤ gb101)); clear HB; have HB := n0_; have BK101 := n1_; have GW101 := n2_; have GE101 := n3_; clear n0_ n1_ n2_ n3_; clear hb hbox hg; have hcz7_0 : w6.cell? ⟨gb101, 0, none⟩ = some (.int .i64 a0_0) := (blk_cell BK101.out 0).trans rfl; have hcz7_1 : w6.cell? ⟨gb101, 1, none⟩ = some (.int .i64 a0_1) := (blk_cell BK101.out 1).trans rfl; have hcz7_2 : w6.cell? ⟨gb101, 2, none⟩ = some (.slice A0_2 l0_2.length c0_2) := (blk_cell BK101.out 2).trans rfl; have hfz7_0 := blk_frozen BK101.out 0; have hfz7_1 := blk_frozen BK101.out 1; have hfz7_2 := blk_frozen BK101.out 2))
   go_ret
   exact ⟨by first | rfl | (simp [errW_none, errW_some] <;> rfl) | (simp [*, errW_none, errW_some] <;> rfl), by repeat (first | (with_reducible first | exact HB.out | apply below_alloc | apply pw_below_drewN | apply below_drew1 | refine below_set ?_ GE101.out) | exact HB.out)⟩
 ·rw [if_neg c2] at H
  have c2b0 : (a0_0 == (-1)) = false := beq_eq_false_iff_ne.mpr c2
  have c2b1 : (a0_0 != (-1)) = true := bne_iff_ne.mpr c2
  obtain rfl := Option.some.inj H
  go_enter Tryd.func102, Tryd.ntmps102
  go_wp2_with (first | ((with_reducible refine gate_dst (N := 1) rfl ?_); (try (refine gate_guard (by rfl) ?_; dsimp only)); refine box_event ?hg (N := 1) ?hd (cs := #[.int .i64 a0_0, .int .i64 a0_1, .slice A0_2 l0_2.length c0_2]) (t := 55) ?hr ?_; (case hd => rfl); (case hg => rfl); (case hr => first | (go_simp; done) | (go_simp; rfl)); intro gb101 hg w8 hbox hb; have n0_ := Aside0.mk (below_step (by repeat (first | (with_reducible first | exact HB.out | apply below_alloc | apply pw_below_drewN | apply below_drew1) | exact HB.out)) hb); have n1_ := Aside0.mk (hbox); have n2_ := Aside0.mk ((by rw [hg]; exact (below_size (by repeat (first | (with_reducible first | exact HB.out | apply below_alloc | apply pw_below_drewN | apply below_drew1) | exact HB.out))) : w.heap.size ≤ gb101)); have n3_ := Aside0.mk ((by rw [hg]; exact (below_size (by repeat (first | (with_reducible first | exact HB.out | apply below_alloc | apply pw_below_drewN | apply below_drew1) | exact HB.out))) : w.heap.size ≤ gb101)); clear HB; have HB := n0_; have BK101 := n1_; have GW101 := n2_; have GE101 := n3_; clear n0_ n1_ n2_ n3_; clear hb hbox hg; have hcz9_0 : w8.cell? ⟨gb101, 0, none⟩ = some (.int .i64 a0_0) := (blk_cell BK101.out 0).trans rfl; have hcz9_1 : w8.cell? ⟨gb101, 1, none⟩ = some (.int .i64 a0_1) := (blk_cell BK101.out 1).trans rfl; have hcz9_2 : w8.cell? ⟨gb101, 2, none⟩ = some (.slice A0_2 l0_2.length c0_2) := (blk_cell BK101.out 2).trans rfl; have hfz9_0 := blk_frozen BK101.out 0; have hfz9_1 := blk_frozen BK101.out 1; have hfz9_2 := blk_frozen BK101.out 2))
  go_ret
  exact ⟨by first | rfl | (simp [errW_none, errW_some] <;> rfl) | (simp [*, errW_none, errW_some] <;> rfl), by repeat (first | (with_reducible first | exact HB.out | apply below_alloc | apply pw_below_drewN | apply below_drew1 | refine below_set ?_ GE101.out) | exact HB.out)⟩
end Go.Proofs.YtmdjmbdeeodehaaDoor.G
end
section
namespace Go.Proofs.YtmdjmbdeeodehaaDoor.G
open Go.RowKit Go.Proofs.YtmdjmbdeeodehaaDoorW.PrintWords Go.Proofs.YtmdjmbdeeodehaaDoorW.PrintLast Go.Proofs.YtmdjmbdeeodehaaDoorW.PrintMore
attribute [local go_sem] max2_int min2_int max_two min_two max_three min_three max_four min_four
attribute [local go_sem] Go.Proofs.YtmdjmbdeeodehaaDoorOwn.isSome_setCell
set_option linter.unusedVariables false
set_option linter.unusedSimpArgs false
mutual
def wickerref03_Count.l0 : Nat → Int → Int → Int → Int → List (S58) → Option (Int)
 | 0, _, _, _, _, _ => none
 | k + 1, x3, x4, x102000, x102001, x102002 => if x4 < (x102002.length : Int) then (if 0 ≤ x4 then ((wickerref03_Count.f k ((rd_T58 x102002 x4).f0) ((rd_T58 x102002 x4).f1) ((rd_T58 x102002 x4).f2)).bind fun t103 => (wickerref03_Count.l0 k (wrap64 (x3 + t103)) (wrap64 (x4 + 1)) x102000 x102001 x102002)) else (none)) else (some x3)
def wickerref03_Count.f : Nat → Int → Int → List (S58) → Option (Int)
 | 0, _, _, _ => none
 | k + 1, a0_0, a0_1, l0_2 => wickerref03_Count.l0 k 1 0 a0_0 a0_1 l0_2
end
set_option maxHeartbeats 8000000 in
set_option maxRecDepth 100000 in
theorem wickerref03_Count.calls (k : Nat) : ∀ (a0_0 : Int) (a0_1 : Int) (A0_2 : Option Addr) (c0_2 : Nat) (l0_2 : List (S58)) (r : Int) (w : World) (hr0_2 : Kd.C k58 w A0_2 l0_2.length l0_2) (hc0_2 : l0_2.length ≤ c0_2) (h : wickerref03_Count.f k a0_0 a0_1 l0_2 = some r),
  Calls Tryd.prog 57 #[.agg #[.int .i64 a0_0, .int .i64 a0_1, .slice A0_2 l0_2.length c0_2]] w fun e w' => e = .returned (.int .i64 r) ∧ Below w.heap.size w w' := by
 induction k using Nat.strongRecOn with
 | _ k ih =>
 intro a0_0 a0_1 A0_2 c0_2 l0_2 r w hr0_2 hc0_2 h
 cases k with
 | zero => exact absurd h (by simp [wickerref03_Count.f])
 | succ k =>
 simp only [wickerref03_Count.f] at h
 have hu58 := Tryd.underlying58
 have HR0_2 := Aside0.mk hr0_2
 have HC0_2 := Aside0.mk hc0_2
 clear hr0_2 hc0_2
 have HB := Aside0.mk (Below.refl w.heap.size w)
 have H : (wickerref03_Count.l0 k 1 0 a0_0 a0_1 l0_2) = some r := h
 clear h
 have H' := Aside0.mk H
 clear H
 go_enter Tryd.func57, Tryd.ntmps57
 go_wp2_with (first | ((with_reducible refine gate_dst (N := 1) rfl ?_); refine box_event ?hg (N := 1) ?hd (cs := #[.int .i64 a0_0, .int .i64 a0_1, .slice A0_2 l0_2.length c0_2]) (t := 58) ?hr ?_; (case hd => rfl); (case hg => rfl); (case hr => first | (go_simp; done) | (go_simp; rfl)); intro gb101 hg w2 hbox hb; have n0_ := Aside0.mk (below_step (by repeat (first | (with_reducible first | exact HB.out | apply below_alloc | apply pw_below_drewN | apply below_drew1) | exact HB.out)) hb); have n1_ := Aside0.mk (hbox); have n2_ := Aside0.mk ((by rw [hg]; exact (below_size (by repeat (first | (with_reducible first | exact HB.out | apply below_alloc | apply pw_below_drewN | apply below_drew1) | exact HB.out))) : w.heap.size ≤ gb101)); have n3_ := Aside0.mk ((by rw [hg]; exact (below_size (by repeat (first | (with_reducible first | exact HB.out | apply below_alloc | apply pw_below_drewN | apply below_drew1) | exact HB.out))) : w.heap.size ≤ gb101)); clear HB; have HB := n0_; have BK101 := n1_; have GW101 := n2_; have GE101 := n3_; clear n0_ n1_ n2_ n3_; clear hb hbox hg))
 go_loopg [3, 4] k (fun kq v3 v4 w' => ∃ (x3_1 : Int) (x4_1 : Int), v3 = .int .i64 x3_1 ∧ v4 = .int .i64 x4_1 ∧ Aside0 (wickerref03_Count.l0 kq x3_1 x4_1 a0_0 a0_1 l0_2 = some r) ∧ Aside0 (kq ≤ k) ∧ Aside0 (w'.heap[gb101]? = some (.cells #[.int .i64 a0_0, .int .i64 a0_1, (.slice A0_2 l0_2.length c0_2)] 58 (0, 0))) ∧ Aside0 (Below w.heap.size w w'))
 case atStart => exact ⟨(1), (0), (by first | rfl | (simp; done) | (simp [*]; done)), (by first | rfl | (simp; done) | (simp [*]; done)), H', ⟨Nat.le_refl _⟩, ⟨by (with_reducible repeat (first | refine blk_drewN ?_ _ | refine blk_drew ?_ | refine blk_alloc ?_ _)); exact BK101.out⟩, ⟨by repeat (first | (with_reducible first | exact HB.out | apply below_alloc | apply pw_below_drewN | apply below_drew1 | refine below_set ?_ GE101.out) | exact HB.out)⟩⟩
 case round =>
  clear H'
  try clear p2
  obtain ⟨x3_1, x4_1, rfl, rfl, HA, HK1, BK101, HB⟩ := hrel
  cases gk with
  | zero => exact absurd HA.out (by simp [wickerref03_Count.l0])
  | succ k1 =>
   have H := HA.out
   clear HA
   simp only [wickerref03_Count.l0] at H
   by_cases c3 : x4_1 < (l0_2.length : Int)
   ·rw [if_pos c3] at H
    have c3b0 : decide (x4_1 < (l0_2.length : Int)) = true := decide_eq_true c3
    clear c3
    by_cases c4 : 0 ≤ x4_1
    ·rw [if_pos c4] at H
     have c4b0 : decide (0 ≤ x4_1) = true := decide_eq_true c4
     clear c4
     replace H := Option.bind_eq_some_iff.mp H
     obtain ⟨t103, A50, H⟩ := H
     replace H : (wickerref03_Count.l0 k1 (wrap64 (x3_1 + t103)) (wrap64 (x4_1 + 1)) a0_0 a0_1 l0_2) = some r := H
     have A5 := Aside0.mk A50
     clear A50
     have H' := Aside0.mk H
     clear H
     have hcz6_0 : wr.cell? ⟨gb101, 0, none⟩ = some (.int .i64 a0_0) := (blk_cell BK101.out 0).trans rfl
     have hcz6_1 : wr.cell? ⟨gb101, 1, none⟩ = some (.int .i64 a0_1) := (blk_cell BK101.out 1).trans rfl
     have hcz6_2 : wr.cell? ⟨gb101, 2, none⟩ = some (.slice A0_2 l0_2.length c0_2) := (blk_cell BK101.out 2).trans rfl
     have hfz6_0 := blk_frozen BK101.out 0
     have hfz6_1 := blk_frozen BK101.out 1
     have hfz6_2 := blk_frozen BK101.out 2
     have p102 : 0 ≤ (x4_1 : Int) := of_decide_eq_true (by first | (with_reducible assumption) | assumption)
     have q102 : x4_1 < (l0_2.length : Int) := of_decide_eq_true (by first | (with_reducible assumption) | assumption)
     obtain ⟨ad102, A102_2, c102_2, e102, hx102_0, hx102_1, hx102_2, hl102_2, hi102_2⟩ := at_T58 HR0_2.out x4_1 p102 q102
     cases e102
     replace hx102_0 := (HB.out.cell (World.block_lt_of_cell? w _ hx102_0)).trans hx102_0
     replace hx102_1 := (HB.out.cell (World.block_lt_of_cell? w _ hx102_1)).trans hx102_1
     replace hx102_2 := (HB.out.cell (World.block_lt_of_cell? w _ hx102_2)).trans hx102_2
     have HR102_2 := Aside0.mk hi102_2
     have HC102_2 := Aside0.mk hl102_2
     clear hi102_2 hl102_2
     replace p102 := eq_true p102
     replace q102 := eq_true q102
     go_wp2_with (first | ((with_reducible refine gate_callee (f := 57) rfl ?_); refine goesL_ (some 18) rfl rfl Tryd.func57 (by kernel_rfl) rfl #[.agg #[.int .i64 ((rd_T58 l0_2 x4_1).f0), .int .i64 ((rd_T58 l0_2 x4_1).f1), .slice A102_2 ((rd_T58 l0_2 x4_1).f2).length c102_2]] rfl (by (try simp only [List.map_toArray, List.map_cons, List.map_nil]); first | done | rfl | (simp only [List.length_drop, List.length_take]; rfl)) ?_; (with_reducible refine (ih k1 (by have := HK1.out; omega) ((rd_T58 l0_2 x4_1).f0) ((rd_T58 l0_2 x4_1).f1) _ _ ((rd_T58 l0_2 x4_1).f2) t103 _ ?side1 ?side2 A5.out).mono ?_); (case side1 => repeat (first | exact (Kd.C_below HR102_2.out HB.out) | (with_reducible refine Kd.C_alloc ?_ _) | (with_reducible refine Kd.C_drewN ?_ _) | (with_reducible refine Kd.C_drew ?_))); (case side2 => exact HC102_2.out); rintro e w7 ⟨rfl, hb⟩; refine ⟨_, rfl, ?_⟩; have n0_ := Aside0.mk (blk_below (g := gb101) (o := .cells #[.int .i64 a0_0, .int .i64 a0_1, .slice (some ad102) l0_2.length c0_2] 58 (0, 0)) (by (with_reducible repeat (first | refine blk_drewN ?_ _ | refine blk_drew ?_ | refine blk_alloc ?_ _)); exact BK101.out) hb); have n1_ := Aside0.mk (below_step (by repeat (first | (with_reducible first | exact HB.out | apply below_alloc | apply pw_below_drewN | apply below_drew1 | refine below_set ?_ GE101.out) | exact HB.out)) hb); clear BK101; clear HB; have BK101 := n0_; have HB := n1_; clear n0_ n1_; (try clear hb); (try clear hb2); (try clear hk); (try clear hi)))
     go_roundg k1
     case measure => have := HK1.out; omega
     case rel => exact ⟨(wrap64 (x3_1 + t103)), (wrap64 (x4_1 + 1)), (by first | rfl | (simp; done) | (simp [*]; done)), (by first | rfl | (simp; done) | (simp [*]; done)), H', ⟨by have := HK1.out; omega⟩, ⟨by (with_reducible repeat (first | refine blk_drewN ?_ _ | refine blk_drew ?_ | refine blk_alloc ?_ _)); exact BK101.out⟩, ⟨by repeat (first | (with_reducible first | exact HB.out | apply below_alloc | apply pw_below_drewN | apply below_drew1 | refine below_set ?_ GE101.out) | exact HB.out)⟩⟩
    ·rw [if_neg c4] at H
     exact absurd H (by simp)
   ·rw [if_neg c3] at H
    have c3b0 : decide (x4_1 < (l0_2.length : Int)) = false := decide_eq_false c3
    clear c3
    obtain rfl := Option.some.inj H
    have hcz8_0 : wr.cell? ⟨gb101, 0, none⟩ = some (.int .i64 a0_0) := (blk_cell BK101.out 0).trans rfl
    have hcz8_1 : wr.cell? ⟨gb101, 1, none⟩ = some (.int .i64 a0_1) := (blk_cell BK101.out 1).trans rfl
    have hcz8_2 : wr.cell? ⟨gb101, 2, none⟩ = some (.slice A0_2 l0_2.length c0_2) := (blk_cell BK101.out 2).trans rfl
    have hfz8_0 := blk_frozen BK101.out 0
    have hfz8_1 := blk_frozen BK101.out 1
    have hfz8_2 := blk_frozen BK101.out 2
    go_wp2
    go_ret
    exact ⟨by first | rfl | (simp [errW_none, errW_some] <;> rfl) | (simp [*, errW_none, errW_some] <;> rfl), by repeat (first | (with_reducible first | exact HB.out | apply below_alloc | apply pw_below_drewN | apply below_drew1 | refine below_set ?_ GE101.out) | exact HB.out)⟩
end Go.Proofs.YtmdjmbdeeodehaaDoor.G
end
section
set_option linter.unusedVariables false
set_option linter.unusedSimpArgs false
namespace Go.Proofs.YtmdjmbdeeodehaaDoor.G
open Go Go.Proofs Go.RowKit Go.Proofs.YtmdjmbdeeodehaaDoorW.PrintWords Go.Proofs.YtmdjmbdeeodehaaDoor.Pure
abbrev TTree := S55
abbrev RTree := S58
abbrev ruleAt (l3 : List GRule) (r : Int) : GRule := rd_T32 l3 r
abbrev rruleAt (m3 : List S87) (r : Int) : S87 := rd_T87 m3 r
mutual
def toR : TTree → RTree
  | ⟨r, s, ks⟩ => ⟨r, s, toRs ks⟩
def toRs : List TTree → List RTree
  | [] => []
  | k :: ks => toR k :: toRs ks
end
mutual
def cntT : TTree → Nat
  | ⟨_, _, ks⟩ => 1 + cntTs ks
def cntTs : List TTree → Nat
  | [] => 0
  | k :: ks => cntT k + cntTs ks
end
mutual
def cntR : RTree → Nat
  | ⟨_, _, ks⟩ => 1 + cntRs ks
def cntRs : List RTree → Nat
  | [] => 0
  | k :: ks => cntR k + cntRs ks
end
mutual
def fitT (l3 : List GRule) : TTree → Int
  | ⟨r, s, ks⟩ => if r < 0 ∨ (l3.length : Int) ≤ r ∨ s ≠ 0 then 8 else if ks.length ≠ (ruleAt l3 r).f1.length then 9 else fitTs l3 (ruleAt l3 r).f1 ks
def fitTs (l3 : List GRule) : List Int → List TTree → Int
  | s :: ss, k :: ks =>
    if decide (k.f0 < 0) ≠ decide (s < 0) then 9
    else if s < 0 then (if k.f1 ≠ s ∨ k.f0 ≠ -1 ∨ 0 < k.f2.length then 9 else fitTs l3 ss ks)
    else if fitT l3 k ≠ 0 then fitT l3 k
    else if (ruleAt l3 k.f0).f0 ≠ s then 9 else fitTs l3 ss ks
  | _, _ => 0
end
mutual
def fitR (m3 : List S87) : RTree → Int
  | ⟨r, s, ks⟩ => if r < 0 ∨ (m3.length : Int) ≤ r ∨ s ≠ 0 then 8 else if ks.length ≠ (rruleAt m3 r).f1.length then 9 else fitRs m3 (rruleAt m3 r).f1 ks
def fitRs (m3 : List S87) : List Int → List RTree → Int
  | s :: ss, k :: ks =>
    if s < 0 then (if k.f0 ≠ -1 ∨ k.f1 ≠ s ∨ 0 < k.f2.length then 9 else fitRs m3 ss ks)
    else if k.f0 < 0 then 9
    else if fitR m3 k ≠ 0 then fitR m3 k
    else if (rruleAt m3 k.f0).f0 ≠ s then 9 else fitRs m3 ss ks
  | _, _ => 0
end
theorem toRs_length : ∀ l : List TTree, (toRs l).length = l.length
  | [] => by simp [toRs]
  | k :: ks => by simp [toRs, toRs_length ks]
theorem toRs_map : ∀ l : List TTree, toRs l = l.map toR
  | [] => by simp [toRs]
  | k :: ks => by simp [toRs, toRs_map ks]
theorem toR_f0 (t : TTree) : (toR t).f0 = t.f0 := by cases t; simp [toR]
theorem toR_f1 (t : TTree) : (toR t).f1 = t.f1 := by cases t; simp [toR]
theorem toR_f2 (t : TTree) : (toR t).f2 = toRs t.f2 := by cases t; simp [toR]
theorem cntT_pos (t : TTree) : 1 ≤ cntT t := by cases t; simp [cntT]
theorem cntT_eq (t : TTree) : cntT t = 1 + cntTs t.f2 := by cases t; simp [cntT]
theorem cntR_pos (t : RTree) : 1 ≤ cntR t := by cases t; simp [cntR]
theorem cntR_eq (t : RTree) : cntR t = 1 + cntRs t.f2 := by cases t; simp [cntR]
theorem cntTs_len : ∀ l : List TTree, l.length ≤ cntTs l
  | [] => by simp [cntTs]
  | k :: ks => by have := cntT_pos k; have := cntTs_len ks; simp only [cntTs, List.length_cons]; omega
theorem cntRs_len : ∀ l : List RTree, l.length ≤ cntRs l
  | [] => by simp [cntRs]
  | k :: ks => by have := cntR_pos k; have := cntRs_len ks; simp only [cntRs, List.length_cons]; omega
theorem cntTs_mem : ∀ {l : List TTree} {k : TTree}, k ∈ l → cntT k ≤ cntTs l
  | x :: ks, k, h => by
    rcases List.mem_cons.1 h with rfl | h
    · simp only [cntTs]; omega
    · have := cntTs_mem h; simp only [cntTs]; omega
theorem cntRs_mem : ∀ {l : List RTree} {k : RTree}, k ∈ l → cntR k ≤ cntRs l
  | x :: ks, k, h => by
    rcases List.mem_cons.1 h with rfl | h
    · simp only [cntRs]; omega
    · have := cntRs_mem h; simp only [cntRs]; omega
mutual
theorem cnt_toR : ∀ t : TTree, cntR (toR t) = cntT t
  | ⟨r, s, ks⟩ => by simp only [toR, cntR, cntT]; rw [cnt_toRs ks]
theorem cnt_toRs : ∀ l : List TTree, cntRs (toRs l) = cntTs l
  | [] => by simp [toRs, cntRs, cntTs]
  | k :: ks => by simp only [toRs, cntRs, cntTs]; rw [cnt_toR k, cnt_toRs ks]
end
theorem rruleAt_of (l3 : List GRule) (r : Int) (h0 : 0 ≤ r) (h1 : r < l3.length) : rruleAt (l3.map ofR) r = ofR (ruleAt l3 r) := by
  obtain ⟨n, rfl⟩ : ∃ n : Nat, r = n := ⟨r.toNat, by omega⟩
  have hn : n < l3.length := by omega
  simp only [rd_T87, rd_T32, Int.toNat_natCast, List.getD_eq_getElem?_getD, List.getElem?_map, List.getElem?_eq_getElem hn, Option.map_some, Option.getD_some]
theorem ofR_f0 (r : GRule) : (ofR r).f0 = r.f0 := rfl
theorem ofR_f1 (r : GRule) : (ofR r).f1 = r.f1 := rfl
mutual
theorem fit_toR (l3 : List GRule) : ∀ t : TTree, fitR (l3.map ofR) (toR t) = fitT l3 t
  | ⟨r, s, ks⟩ => by
    simp only [toR, fitR, fitT, List.length_map]
    by_cases h : r < 0 ∨ (l3.length : Int) ≤ r ∨ s ≠ 0
    · rw [if_pos h, if_pos h]
    · rw [if_neg h, if_neg h, rruleAt_of l3 r (by omega) (by omega), ofR_f1, toRs_length, fits_toRs l3 _ ks]
theorem fits_toRs (l3 : List GRule) : ∀ (ss : List Int) (ks : List TTree), fitRs (l3.map ofR) ss (toRs ks) = fitTs l3 ss ks
  | [], _ => by simp [fitRs, fitTs]
  | _ :: _, [] => by simp [toRs, fitRs, fitTs]
  | s :: ss, k :: ks => by
    simp only [toRs, fitRs, fitTs]
    have hk := fit_toR l3 k
    have hs := fits_toRs l3 ss ks
    rw [toR_f0, toR_f1, toR_f2, toRs_length, hk, hs]
    by_cases h0 : s < 0
    · rw [if_pos h0, decide_eq_true h0]
      by_cases h1 : k.f0 < 0
      · rw [decide_eq_true h1]
        by_cases x : k.f0 = -1 <;> by_cases y : k.f1 = s <;> by_cases z : 0 < k.f2.length <;> simp [x, y, z, h0]
      · rw [decide_eq_false h1]
        have x : ¬ k.f0 = -1 := by omega
        simp [x]
    · rw [if_neg h0, decide_eq_false h0]
      by_cases h1 : k.f0 < 0
      · rw [if_pos h1, decide_eq_true h1, if_pos (by simp)]
      · rw [if_neg h1, decide_eq_false h1, if_neg (show ¬ (false ≠ false) by simp), if_neg h0]
        by_cases h2 : fitT l3 k ≠ 0
        · rw [if_pos h2, if_pos h2]
        · rw [if_neg h2, if_neg h2]
          have h3 : 0 ≤ k.f0 ∧ k.f0 < l3.length := by
            obtain ⟨r, y, kk⟩ := k
            simp only [fitT] at h2
            split at h2
            · exact absurd h2 (by decide)
            · rename_i h; simp only at h1 ⊢; omega
          rw [rruleAt_of l3 _ h3.1 h3.2, ofR_f0]
end
theorem fitT_in {l3 : List GRule} {t : TTree} (h : fitT l3 t = 0) : 0 ≤ t.f0 ∧ t.f0 < l3.length ∧ t.f1 = 0 := by
  obtain ⟨r, y, kk⟩ := t
  simp only [fitT] at h
  split at h
  · exact absurd h (by decide)
  · rename_i h; simp only at h ⊢; omega
theorem fitR_in {l3 : List S87} {t : RTree} (h : fitR l3 t = 0) : 0 ≤ t.f0 ∧ t.f0 < l3.length ∧ t.f1 = 0 := by
  obtain ⟨r, y, kk⟩ := t
  simp only [fitR] at h
  split at h
  · exact absurd h (by decide)
  · rename_i h; simp only at h ⊢; omega
theorem rdT_at (xs : List TTree) (j : Nat) (h : j < xs.length) : rd_T55 xs (j : Int) = xs[j] := by
  rw [rd_T55, Int.toNat_natCast, List.getD_eq_getElem?_getD, List.getElem?_eq_getElem h]; rfl
theorem rdR_at (xs : List RTree) (j : Nat) (h : j < xs.length) : rd_T58 xs (j : Int) = xs[j] := by
  rw [rd_T58, Int.toNat_natCast, List.getD_eq_getElem?_getD, List.getElem?_eq_getElem h]; rfl
theorem w64b {a : Int} (h0 : 0 ≤ a) (h1 : a ≤ 9223372036854775807) : wrap64 a = a := by unfold wrap64; omega
theorem count_f : ∀ (n : Nat) (t : TTree), cntT t ≤ n → cntT t ≤ 1000000 → Ev (fun k => tree_Count.f k t.f0 t.f1 t.f2) (cntT t : Int) := by
  intro n
  induction n with
  | zero => intro t h; have := cntT_pos t; omega
  | succ n ih =>
    intro t hn hb
    have hl : ∀ (d j : Nat) (x : Nat), d + j = t.f2.length → x + cntTs (t.f2.drop j) ≤ 1000000 → Ev (fun k => tree_Count.l0 k (x : Int) t.f2 (t.f2.length : Int) (j : Int)) ((x + cntTs (t.f2.drop j) : Nat) : Int) := by
      have ht := cntT_eq t
      have htl := cntTs_len t.f2
      intro d
      induction d with
      | zero =>
        intro j x hd hx
        obtain rfl : j = t.f2.length := by omega
        refine Ev.step (f := fun _ => some (x : Int)) (fun k => ?_) ?_
        · rw [tree_Count.l0, if_neg (by omega)]
        · rw [List.drop_length, cntTs]; exact Ev.now _
      | succ d ihd =>
        intro j x hd hx
        have hj : j < t.f2.length := by omega
        have hdr : t.f2.drop j = t.f2[j] :: t.f2.drop (j + 1) := List.drop_eq_getElem_cons hj
        rw [hdr, cntTs] at hx ⊢
        have hm := cntTs_mem (List.getElem_mem hj)
        refine Ev.step (fun k => by rw [tree_Count.l0, if_pos (by omega), if_pos (by omega), if_pos (by omega), rdT_at _ j hj]) (Ev.bind (ih t.f2[j] (by omega) (by omega)) ?_)
        rw [w64b (by omega) (by omega), w64b (by omega) (by omega), show (x : Int) + (cntT t.f2[j] : Int) = ((x + cntT t.f2[j] : Nat) : Int) by omega, show (j : Int) + 1 = ((j + 1 : Nat) : Int) by omega, ← Nat.add_assoc]
        exact ihd (j + 1) (x + cntT t.f2[j]) (by omega) (by omega)
    have h1 := hl t.f2.length 0 1 (by omega) (by have := cntT_eq t; simp only [List.drop_zero]; omega)
    refine Ev.step (fun k => by rw [tree_Count.f]) ?_
    have h2 := cntT_eq t
    rw [List.drop_zero, ← h2] at h1
    exact h1
theorem rcount_f : ∀ (n : Nat) (t : RTree), cntR t ≤ n → cntR t ≤ 1000000 → Ev (fun k => wickerref03_Count.f k t.f0 t.f1 t.f2) (cntR t : Int) := by
  intro n
  induction n with
  | zero => intro t h; have := cntR_pos t; omega
  | succ n ih =>
    intro t hn hb
    have hl : ∀ (d j : Nat) (x : Nat), d + j = t.f2.length → x + cntRs (t.f2.drop j) ≤ 1000000 → Ev (fun k => wickerref03_Count.l0 k (x : Int) (j : Int) t.f0 t.f1 t.f2) ((x + cntRs (t.f2.drop j) : Nat) : Int) := by
      have ht := cntR_eq t
      have htl := cntRs_len t.f2
      intro d
      induction d with
      | zero =>
        intro j x hd hx
        obtain rfl : j = t.f2.length := by omega
        refine Ev.step (f := fun _ => some (x : Int)) (fun k => ?_) ?_
        · rw [wickerref03_Count.l0, if_neg (by omega)]
        · rw [List.drop_length, cntRs]; exact Ev.now _
      | succ d ihd =>
        intro j x hd hx
        have hj : j < t.f2.length := by omega
        have hdr : t.f2.drop j = t.f2[j] :: t.f2.drop (j + 1) := List.drop_eq_getElem_cons hj
        rw [hdr, cntRs] at hx ⊢
        have hm := cntRs_mem (List.getElem_mem hj)
        refine Ev.step (fun k => by rw [wickerref03_Count.l0, if_pos (by omega), if_pos (by omega), rdR_at _ j hj]) (Ev.bind (ih t.f2[j] (by omega) (by omega)) ?_)
        rw [w64b (by omega) (by omega), w64b (by omega) (by omega), show (x : Int) + (cntR t.f2[j] : Int) = ((x + cntR t.f2[j] : Nat) : Int) by omega, show (j : Int) + 1 = ((j + 1 : Nat) : Int) by omega, ← Nat.add_assoc]
        exact ihd (j + 1) (x + cntR t.f2[j]) (by omega) (by omega)
    have h1 := hl t.f2.length 0 1 (by omega) (by have := cntR_eq t; simp only [List.drop_zero]; omega)
    refine Ev.step (fun k => by rw [wickerref03_Count.f]) ?_
    have h2 := cntR_eq t
    rw [List.drop_zero, ← h2] at h1
    exact h1
end Go.Proofs.YtmdjmbdeeodehaaDoor.G
end
section
set_option linter.unusedVariables false
set_option linter.unusedSimpArgs false
namespace Go.Proofs.YtmdjmbdeeodehaaDoor.RegT
open Go Go.RowKit
def fv (f : Tmp → Value) : Option Tmp → Value
  | some d => f d
  | none => undef
def fillIn (f : Tmp → Value) : List Oper → Act → Act
  | [], a => a
  | o :: l, a => fillIn f l (a.put o.dst (fv f o.dst))
theorem put_tmps_size (a : Act) (d : Option Tmp) (v : Value) : (a.put d v).tmps.size = a.tmps.size := by cases d <;> simp [Act.put]
theorem put_defers (a : Act) (d : Option Tmp) (v : Value) : (a.put d v).defers = a.defers := by cases d <;> rfl
theorem put_at (a : Act) (d : Option Tmp) (v : Value) (t : Tmp) (h : d ≠ some t) : (a.put d v).tmps[t]? = a.tmps[t]? := by
  cases d with
  | none => rfl
  | some d => simp only [Act.put]; rw [Array.getElem?_setIfInBounds_ne]; intro e; exact h (by rw [e])
theorem put_same (a : Act) (t : Tmp) (v : Value) (h : t < a.tmps.size) : (a.put (some t) v).tmps[t]? = some v := by
  simp only [Act.put]; rw [Array.getElem?_setIfInBounds_self_of_lt h]
theorem fillIn_size (f : Tmp → Value) : ∀ (l : List Oper) (a : Act), (fillIn f l a).tmps.size = a.tmps.size
  | [], a => rfl
  | o :: l, a => by rw [fillIn, fillIn_size f l, put_tmps_size]
theorem fillIn_defers (f : Tmp → Value) : ∀ (l : List Oper) (a : Act), (fillIn f l a).defers = a.defers
  | [], a => rfl
  | o :: l, a => by rw [fillIn, fillIn_defers f l, put_defers]
theorem fillIn_out (f : Tmp → Value) (t : Tmp) : ∀ (l : List Oper) (a : Act), (∀ o ∈ l, o.dst ≠ some t) → (fillIn f l a).tmps[t]? = a.tmps[t]?
  | [], a, _ => rfl
  | o :: l, a, h => by rw [fillIn, fillIn_out f t l _ (fun o ho => h o (List.mem_cons_of_mem _ ho)), put_at _ _ _ _ (h o List.mem_cons_self)]
theorem fillIn_in (f : Tmp → Value) (t : Tmp) : ∀ (l : List Oper) (a : Act), t < a.tmps.size → (a.tmps[t]? = some (f t) ∨ ∃ o ∈ l, o.dst = some t) → (fillIn f l a).tmps[t]? = some (f t)
  | [], a, _, h => by
    rcases h with h | ⟨o, ho, _⟩
    · exact h
    · cases ho
  | o :: l, a, hs, h => by
    rw [fillIn]
    apply fillIn_in f t l _ (by rw [put_tmps_size]; exact hs)
    by_cases hd : o.dst = some t
    · left; rw [hd]; exact put_same a t (f t) hs
    · rcases h with h | ⟨o', ho, he⟩
      · left; rw [put_at _ _ _ _ hd]; exact h
      · rcases List.mem_cons.1 ho with rfl | ho
        · exact absurd he hd
        · exact Or.inr ⟨o', ho, he⟩
structure Same (l : List Oper) (a0 a : Act) : Prop where
  n : a.tmps.size = a0.tmps.size
  d : a.defers = a0.defers
  t : ∀ t, (∀ o ∈ l, o.dst ≠ some t) → a.tmps[t]? = a0.tmps[t]?
theorem Same.fill {l : List Oper} {a0 a : Act} (h : Same l a0 a) : a = fillIn (fun d => a.tmps.getD d undef) l a0 := by
  have h1 : a.tmps = (fillIn (fun d => a.tmps.getD d undef) l a0).tmps := by
    apply Array.ext_getElem?
    intro t
    by_cases hlt : t < a0.tmps.size
    · by_cases hd : ∃ o ∈ l, o.dst = some t
      · rw [fillIn_in _ t l a0 hlt (Or.inr hd)]
        rw [Array.getElem?_eq_getElem (by rw [h.n]; exact hlt)]
        simp [Array.getD, h.n, hlt]
      · have hd2 : ∀ o ∈ l, o.dst ≠ some t := fun o ho he => hd ⟨o, ho, he⟩
        rw [fillIn_out _ t l a0 hd2, h.t t hd2]
    · rw [Array.getElem?_eq_none (by rw [h.n]; omega), Array.getElem?_eq_none (by rw [fillIn_size]; omega)]
  have h2 := fillIn_defers (fun d => a.tmps.getD d undef) l a0
  generalize fillIn (fun d => a.tmps.getD d undef) l a0 = b at *
  obtain ⟨at_, ad⟩ := a
  obtain ⟨bt, bd⟩ := b
  have h3 := h.d
  simp only at h1 h2 h3
  rw [h1, h3, h2]
def aheadB (ops : Array Oper) : Bool := (List.range ops.size).all fun i => match ops[i]? with
  | some o => o.after.all fun e => !Region.binds .any e || decide (e.on < i)
  | none => true
def dsts (ops : Array Oper) : List Tmp := ops.toList.filterMap (·.dst)
def apartB : List Tmp → Bool
  | [] => true
  | t :: l => !l.contains t && apartB l
section
variable {P : Program} {ops : Array Oper} {Q : Exit → Act → World → Prop}
def deps (ops : Array Oper) (o : Oper) : List (Nat × Tmp) := o.after.toList.filterMap fun e => if Region.binds .any e = true then ((ops[e.on]?).bind (·.dst)).map fun d => (e.on, d) else none
def DepAll (R : Nat → Value → World → Prop) (f : Tmp → Value) (w : World) : List (Nat × Tmp) → Prop
  | [] => True
  | p :: l => R p.1 (f p.2) w ∧ DepAll R f w l
theorem depAll_of {R : Nat → Value → World → Prop} {f : Tmp → Value} {w : World} : ∀ {l : List (Nat × Tmp)}, (∀ p ∈ l, R p.1 (f p.2) w) → DepAll R f w l
  | [], _ => trivial
  | p :: l, h => ⟨h p List.mem_cons_self, depAll_of (fun q hq => h q (List.mem_cons_of_mem _ hq))⟩
def Ob (P : Program) (ops : Array Oper) (Q : Exit → Act → World → Prop) (S : World → Prop) (R : Nat → Value → World → Prop) (F : (Tmp → Value) → Act) (i : Nat) (o : Oper) : Prop :=
  ∀ (f : Tmp → Value) (w : World), S w → DepAll R f w (deps ops o) →
    ∀ K : Act → World → Prop, Shut (∀ v w', S w' → Below w.heap.size w w' → R i v w' → ∀ a', a' = (F f).put o.dst v → K a' w') →
      if Region.wanted o (yielded ops (F f).tmps) = true then Oper.wp P o (F f) w K Q else K ((F f).put o.dst undef) w
theorem apart_nodup : ∀ {l : List Tmp}, apartB l = true → l.Nodup
  | [], _ => List.nodup_nil
  | t :: l, h => by
    simp only [apartB, Bool.and_eq_true, Bool.not_eq_true'] at h
    exact List.nodup_cons.2 ⟨fun hm => by have := List.contains_iff_mem.2 hm; rw [this] at h; exact absurd h.1 (by decide), apart_nodup h.2⟩
theorem dst_apart_aux : ∀ (l : List Oper) (i j : Nat) (x y : Oper) (d : Tmp), (l.filterMap (·.dst)).Nodup → l[i]? = some x → l[j]? = some y → x.dst = some d → y.dst = some d → i = j
  | [], i, j, x, y, d, _, hi, _, _, _ => by simp at hi
  | o :: l, 0, 0, x, y, d, _, _, _, _, _ => rfl
  | o :: l, 0, j + 1, x, y, d, hn, hi, hj, hx, hy => by
    simp only [List.getElem?_cons_zero, Option.some.injEq] at hi
    simp only [List.getElem?_cons_succ] at hj
    subst hi
    rw [List.filterMap_cons_some hx] at hn
    exact absurd (List.mem_filterMap.2 ⟨y, List.mem_of_getElem? hj, hy⟩) (List.nodup_cons.1 hn).1
  | o :: l, i + 1, 0, x, y, d, hn, hi, hj, hx, hy => by
    simp only [List.getElem?_cons_zero, Option.some.injEq] at hj
    simp only [List.getElem?_cons_succ] at hi
    subst hj
    rw [List.filterMap_cons_some hy] at hn
    exact absurd (List.mem_filterMap.2 ⟨x, List.mem_of_getElem? hi, hx⟩) (List.nodup_cons.1 hn).1
  | o :: l, i + 1, j + 1, x, y, d, hn, hi, hj, hx, hy => by
    simp only [List.getElem?_cons_succ] at hi hj
    have h2 : (l.filterMap (·.dst)).Nodup := by
      cases hd : o.dst with
      | none => rwa [List.filterMap_cons_none hd] at hn
      | some t => rw [List.filterMap_cons_some hd] at hn; exact (List.nodup_cons.1 hn).2
    rw [dst_apart_aux l i j x y d h2 hi hj hx hy]
theorem dst_apart (h : apartB (dsts ops) = true) {i j : Nat} {x y : Oper} {d : Tmp} (hi : ops[i]? = some x) (hj : ops[j]? = some y) (hx : x.dst = some d) (hy : y.dst = some d) : i = j :=
  dst_apart_aux ops.toList i j x y d (apart_nodup h) (by simpa using hi) (by simpa using hj) hx hy
structure J (pl : List Oper) (ops : Array Oper) (S : World → Prop) (R : Nat → Value → World → Prop) (a0 : Act) (listed : Array Bool) (a : Act) (w : World) : Prop where
  same : Same pl a0 a
  s : S w
  r : ∀ i o d, ops[i]? = some o → o.dst = some d → listed.getD i false = true → R i (a.tmps.getD d undef) w
theorem J.step {E : World → World → Prop} {pl : List Oper} {S : World → Prop} {R : Nat → Value → World → Prop} {a0 a : Act} {listed : Array Bool} {w w' : World} (hap : apartB (dsts ops) = true) (hin : (dsts ops).all (· < a0.tmps.size) = true)
    (hR : ∀ i v w w', R i v w → E w w' → R i v w') (h : J pl ops S R a0 listed a w) {i : Nat} {o : Oper} (hi : ops[i]? = some o) (hpl : o ∈ pl) (hlen : listed.size = ops.size) {v : Value} (hS : S w') (hb : E w w') (hv : R i v w') :
    J pl ops S R a0 (listed.setIfInBounds i true) (a.put o.dst v) w' := by
  refine ⟨⟨by rw [put_tmps_size]; exact h.same.n, by rw [put_defers]; exact h.same.d, fun t ht => ?_⟩, hS, fun j oj d hj hd hl => ?_⟩
  · rw [put_at _ _ _ _ (ht o hpl)]; exact h.same.t t ht
  · by_cases hij : i = j
    · subst hij
      rw [hi] at hj
      obtain rfl := Option.some.inj hj
      have hlt : d < a0.tmps.size := by
        have := List.all_eq_true.1 hin d (List.mem_filterMap.2 ⟨o, Array.mem_toList_iff.2 (Array.mem_of_getElem? hi), hd⟩)
        exact of_decide_eq_true this
      have h2 : (a.put o.dst v).tmps.getD d undef = v := by
        rw [hd, Array.getD_eq_getD_getElem?, put_same a d v (by rw [h.same.n]; exact hlt)]; rfl
      rw [h2]; exact hv
    · have hne : o.dst ≠ some d := fun he => hij (dst_apart hap hi hj he hd)
      have h2 : (a.put o.dst v).tmps.getD d undef = a.tmps.getD d undef := by
        rw [Array.getD_eq_getD_getElem?, put_at _ _ _ _ hne, Array.getD_eq_getD_getElem?]
      rw [h2]
      exact hR _ _ _ _ (h.r j oj d hj hd (by rw [getD_set_ne false hij] at hl; exact hl)) hb
theorem count_set_true (l : List Bool) (i : Nat) (h : l[i]? = some false) : (l.set i true).count false + 1 = l.count false := by
  induction l generalizing i with
  | nil => simp at h
  | cons b l ih =>
    cases i with
    | zero =>
      simp only [List.getElem?_cons_zero, Option.some.injEq] at h
      subst h
      simp
    | succ i =>
      simp only [List.getElem?_cons_succ] at h
      have := ih i h
      simp only [List.set_cons_succ, List.count_cons]
      omega
theorem any_of {S : World → Prop} {R : Nat → Value → World → Prop} {a0 : Act} {F : (Tmp → Value) → Act} (hF : ∀ f, fillIn f ops.toList a0 = F f) (hap : apartB (dsts ops) = true) (hin : (dsts ops).all (· < a0.tmps.size) = true) (hah : aheadB ops = true)
    (hR : ∀ i v w w', R i v w → Below w.heap.size w w' → R i v w')
    (hops : ∀ i o, ops[i]? = some o → Ob P ops Q S R F i o)
    (hend : ∀ (f : Tmp → Value) (w : World), S w → (∀ i o d, ops[i]? = some o → o.dst = some d → R i (f d) w) → Q .normal (F f) w) :
    ∀ (fuel : Nat) (listed : Array Bool) (a : Act) (w : World), listed.size = ops.size → listed.toList.count false = fuel → J ops.toList ops S R a0 listed a w → wpAny P .any ops Q fuel listed a w := by
  have hfin : ∀ (listed : Array Bool) (a : Act) (w : World), listed.size = ops.size → listed.toList.count false = 0 → J ops.toList ops S R a0 listed a w → Q .normal a w := by
    intro listed a w hl hc hJ
    have hall : ∀ i, i < ops.size → listed.getD i false = true := fun i hi => by
      have h1 : listed[i]'(by omega) ∈ listed.toList := by simp
      have h2 : listed[i]'(by omega) ≠ false := fun he => List.count_eq_zero.1 hc (he ▸ h1)
      rw [Array.getD_eq_getD_getElem?, Array.getElem?_eq_getElem (by omega)]
      simpa using h2
    rw [hJ.same.fill, hF]
    exact hend _ w hJ.s (fun i o d hi hd => hJ.r i o d hi hd (hall i (Array.getElem?_eq_some_iff.1 hi).1))
  intro fuel
  induction fuel with
  | zero =>
    intro listed a w hl hc hJ
    refine ⟨?_, hfin listed a w hl hc hJ⟩
    rw [List.eq_nil_iff_forall_not_mem]
    intro i hi
    obtain ⟨h1, o, ho, _⟩ := mem_ready.1 hi
    have hlt := (Array.getElem?_eq_some_iff.1 ho).1
    rw [Array.getD_eq_getD_getElem?, Array.getElem?_eq_getElem (by omega)] at h1
    have h2 : listed[i]'(by omega) ∈ listed.toList := by simp
    have h3 : listed[i]'(by omega) = false := by simpa using h1
    exact List.count_eq_zero.1 hc (h3 ▸ h2)
  | succ fuel ih =>
    intro listed a w hl hc hJ
    have hne : Region.ready .any ops listed ≠ [] := by
      intro he
      have hm : ∀ n i, i < n → i < ops.size → listed.getD i false = true := by
        intro n
        induction n with
        | zero => intro i hi; omega
        | succ n ihn =>
          intro i hi hio
          by_cases hlt : i < n
          · exact ihn i hlt hio
          · obtain rfl : i = n := by omega
            cases hg : listed.getD i false with
            | true => rfl
            | false =>
              exfalso
              have hmem : i ∈ Region.ready .any ops listed := by
                refine mem_ready.2 ⟨?_, ops[i], Array.getElem?_eq_getElem hio, fun e hem hbe => ?_⟩
                · rw [Array.getD_eq_getD_getElem?, Array.getElem?_eq_getElem (by omega)] at hg ⊢; exact hg
                · have h1 := List.all_eq_true.1 hah i (List.mem_range.2 hio)
                  rw [Array.getElem?_eq_getElem hio] at h1
                  have h2 := Array.all_eq_true_iff_forall_mem.1 h1 e hem
                  rw [hbe] at h2
                  have h3 : e.on < i := by simpa using h2
                  exact ihn e.on h3 (by omega)
              rw [he] at hmem
              cases hmem
      have h0 : listed.toList.count false = 0 := by
        rw [List.count_eq_zero]
        intro hmem
        obtain ⟨i, hi, hv⟩ := List.getElem_of_mem hmem
        have hi2 : i < ops.size := by simp at hi; omega
        have := hm (i + 1) i (by omega) hi2
        rw [Array.getD_eq_getD_getElem?, Array.getElem?_eq_getElem (by omega)] at this
        simp at hv this
        rw [hv] at this
        cases this
      omega
    refine ⟨fun he => absurd he hne, fun i hi => ?_⟩
    obtain ⟨h1, o, ho, hall⟩ := mem_ready.1 hi
    have hlt := (Array.getElem?_eq_some_iff.1 ho).1
    have hfill := hJ.same.fill
    rw [hF] at hfill
    have hob := hops i o ho (fun d => a.tmps.getD d undef) w hJ.s (depAll_of (fun p hp => by
        obtain ⟨e, he, hp⟩ := List.mem_filterMap.1 hp
        split at hp
        · rename_i hb
          obtain ⟨d, hd, rfl⟩ := Option.map_eq_some_iff.1 hp
          obtain ⟨o', ho', hd'⟩ := Option.bind_eq_some_iff.1 hd
          exact hJ.r e.on o' d ho' hd' (hall e (by simpa using he) hb)
        · cases hp))
      (fun a' w' => wpAny P .any ops Q fuel (listed.setIfInBounds i true) a' w') (by
        intro v w' hS hb hv a' ha'
        rw [ha', ← hfill]
        refine ih _ _ _ (by simpa using hl) ?_ (hJ.step hap hin hR ho (Array.mem_toList_iff.2 (Array.mem_of_getElem? ho)) hl hS hb hv)
        have := count_set_true listed.toList i (by
          rw [Array.getD_eq_getD_getElem?, Array.getElem?_eq_getElem (by omega)] at h1
          simp at h1
          simp [List.getElem?_eq_getElem, h1, hl, hlt])
        simp only [Array.toList_setIfInBounds]
        omega)
    rw [← hfill] at hob
    unfold wpOp
    rw [ho]
    simp only
    split
    · rename_i hw; rw [if_pos hw] at hob; exact Or.inl hob
    · rename_i hw; rw [if_neg hw] at hob; exact hob
def All (Ob : Nat → Oper → Prop) : Nat → List Oper → Prop
  | _, [] => True
  | i, o :: l => Ob i o ∧ All Ob (i + 1) l
theorem all_of {Ob : Nat → Oper → Prop} : ∀ (l : List Oper) (k : Nat), All Ob k l → ∀ i o, l[i]? = some o → Ob (k + i) o
  | [], _, _, i, o, h => by simp at h
  | x :: l, k, ha, 0, o, h => by simp only [List.getElem?_cons_zero, Option.some.injEq] at h; subst h; exact ha.1
  | x :: l, k, ha, i + 1, o, h => by
    simp only [List.getElem?_cons_succ] at h
    have := all_of l (k + 1) ha.2 i o h
    rwa [show k + 1 + i = k + (i + 1) by omega] at this
theorem all_ops {Ob : Nat → Oper → Prop} (l : List Oper) (h : All Ob 0 l) : ∀ i o, l.toArray[i]? = some o → Ob i o := fun i o hi => by
  have := all_of l 0 h i o (by simpa using hi)
  rwa [Nat.zero_add] at this
theorem region (S : World → Prop) (R : Nat → Value → World → Prop) {l : List Oper} {a0 : Act} {w0 : World} {id : Nat} {F : (Tmp → Value) → Act} (hF : ∀ f, fillIn f l a0 = F f) (hm : P.follows .mixedOrders = true) (hap : apartB (dsts l.toArray) = true) (hin : (dsts l.toArray).all (· < a0.tmps.size) = true) (hah : aheadB l.toArray = true)
    (hR : ∀ i v w w', R i v w → Below w.heap.size w w' → R i v w') (hS : S w0.drew)
    (hops : All (Ob P l.toArray Q S R F) 0 l)
    (hend : ∀ (f : Tmp → Value) (w : World), S w → (∀ i o d, l.toArray[i]? = some o → o.dst = some d → R i (f d) w) → Q .normal (F f) w) : (Code.region id l.toArray true).wp P Q a0 w0 := by
  refine wp_region_any hm (any_of (S := S) (R := R) (a0 := a0) (F := F) (by simpa using hF) hap hin hah hR (all_ops l hops) hend l.toArray.size _ a0 w0.drew (by simp) (by simp) ⟨⟨rfl, rfl, fun _ _ => rfl⟩, hS, fun i o d hi hd hl => ?_⟩)
  exfalso
  have hlt := (Array.getElem?_eq_some_iff.1 hi).1
  rw [Array.getD_eq_getD_getElem?, Array.getElem?_replicate, if_pos hlt] at hl
  cases hl
end
section
variable {P : Program} {ops : Array Oper} {Q : Exit → Act → World → Prop}
def direct (ops : Array Oper) (i : Nat) : List Nat := match ops[i]? with
  | some o => o.after.toList.filterMap fun e => if Region.binds .any e then some e.on else none
  | none => []
def sweep (ops : Array Oper) : Nat → List Nat → List Nat
  | 0, A => A
  | k + 1, A => if A.contains k then sweep ops k (direct ops k ++ A) else sweep ops k A
def tailB (ops : Array Oper) (m : Nat) : Bool := (List.range ops.size).all fun i => decide (i < m) || (let A := sweep ops i (direct ops i); (List.range i).all fun j => A.contains j)
theorem sweep_in {L : Nat → Prop} (hc : ∀ k, L k → ∀ j ∈ direct ops k, L j) : ∀ (n : Nat) (A : List Nat), (∀ j ∈ A, L j) → ∀ j ∈ sweep ops n A, L j
  | 0, A, h => h
  | k + 1, A, h => by
    simp only [sweep]
    split
    · rename_i hk
      have hL : L k := h k (by simpa using hk)
      exact sweep_in hc k _ (fun j hj => by
        rcases List.mem_append.1 hj with h1 | h1
        · exact hc k hL j h1
        · exact h j h1)
    · exact sweep_in hc k _ h
theorem mem_direct {i j : Nat} {o : Oper} (ho : ops[i]? = some o) : j ∈ direct ops i ↔ ∃ e ∈ o.after, Region.binds .any e = true ∧ e.on = j := by
  unfold direct
  rw [ho]
  simp only [List.mem_filterMap, Array.mem_toList_iff]
  constructor
  · rintro ⟨e, he, h⟩
    split at h
    · rename_i hb; exact ⟨e, he, hb, Option.some.inj h⟩
    · cases h
  · rintro ⟨e, he, hb, rfl⟩
    exact ⟨e, he, by rw [if_pos hb]⟩
theorem tail_spec {m i : Nat} {o : Oper} {L : Nat → Prop} (h : tailB ops m = true) (ho : ops[i]? = some o) (hm : m ≤ i) (hc : ∀ k ok, ops[k]? = some ok → L k → ∀ e ∈ ok.after, Region.binds .any e = true → L e.on) (hi : ∀ e ∈ o.after, Region.binds .any e = true → L e.on) : ∀ j, j < i → L j := fun j hj => by
  have h1 := List.all_eq_true.1 h i (List.mem_range.2 (Array.getElem?_eq_some_iff.1 ho).1)
  simp only [Bool.or_eq_true, decide_eq_true_eq] at h1
  rcases h1 with h1 | h1
  · omega
  · have h2 := List.all_eq_true.1 h1 j (List.mem_range.2 hj)
    refine sweep_in (ops := ops) (L := L) (fun k hk x hx => ?_) i (direct ops i) (fun x hx => ?_) j (by simpa using h2)
    · cases hk2 : ops[k]? with
      | none => unfold direct at hx; rw [hk2] at hx; cases hx
      | some ok =>
        obtain ⟨e, he, hb, rfl⟩ := (mem_direct hk2).1 hx
        exact hc k ok hk2 hk e he hb
    · obtain ⟨e, he, hb, rfl⟩ := (mem_direct ho).1 hx
      exact hi e he hb
theorem ahead_spec {i : Nat} {o : Oper} (h : aheadB ops = true) (ho : ops[i]? = some o) {e : Edge} (he : e ∈ o.after) (hb : Region.binds .any e = true) : e.on < i := by
  have h1 := List.all_eq_true.1 h i (List.mem_range.2 (Array.getElem?_eq_some_iff.1 ho).1)
  rw [ho] at h1
  have h2 := Array.all_eq_true_iff_forall_mem.1 h1 e he
  rw [hb] at h2
  simpa using h2
theorem tail_run {m : Nat} (ht : tailB ops m = true) (hah : aheadB ops = true) : ∀ (d i : Nat) (listed : Array Bool) (a : Act) (w : World), i + d = ops.size → m ≤ i → listed.size = ops.size → (∀ j, j < ops.size → (listed.getD j false = true ↔ j < i)) → wpOps P ops Q (List.range' i d) a w → wpAny P .any ops Q d listed a w := by
  intro d
  induction d with
  | zero =>
    intro i listed a w hi hm hl hL h
    refine ⟨?_, by simpa [wpOps] using h⟩
    rw [List.eq_nil_iff_forall_not_mem]
    intro j hj
    obtain ⟨h1, o, ho, _⟩ := mem_ready.1 hj
    have hlt := (Array.getElem?_eq_some_iff.1 ho).1
    have h2 := (hL j hlt).2 (by omega)
    rw [Array.getD_eq_getD_getElem?, Array.getElem?_eq_getElem (by omega)] at h1 h2
    simp only [Option.getD_some] at h1 h2
    rw [h1] at h2; cases h2
  | succ d ih =>
    intro i listed a w hi hm hl hL h
    have hilt : i < ops.size := by omega
    have hun : ∀ j, j < ops.size → ¬ j < i → listed.getD j true = false := fun j hj hn => by
      have h1 : ¬ listed.getD j false = true := fun he => hn ((hL j hj).1 he)
      rw [Array.getD_eq_getD_getElem?, Array.getElem?_eq_getElem (by omega)] at h1 ⊢
      simpa using h1
    rw [List.range'_succ, wpOps_cons] at h
    have hready : ∀ j, j ∈ Region.ready .any ops listed → j = i := fun j hj => by
      obtain ⟨h1, o, ho, hall⟩ := mem_ready.1 hj
      have hlt := (Array.getElem?_eq_some_iff.1 ho).1
      have hge : ¬ j < i := fun hji => by
        have h2 := (hL j hlt).2 hji
        rw [Array.getD_eq_getD_getElem?, Array.getElem?_eq_getElem (by omega)] at h1 h2
        simp only [Option.getD_some] at h1 h2
        rw [h1] at h2; cases h2
      rcases Nat.lt_or_ge i j with hij | hij
      · exfalso
        have h3 := tail_spec (L := fun x => listed.getD x false = true) ht ho (by omega) (fun k ok hk hlk e he hb => by
          have hklt := (Array.getElem?_eq_some_iff.1 hk).1
          have h5 := ahead_spec hah hk he hb
          have h6 := (hL k hklt).1 hlk
          exact (hL e.on (by omega)).2 (by omega)) hall i hij
        have := (hL i hilt).1 h3
        omega
      · omega
    have hmem : i ∈ Region.ready .any ops listed := by
      refine mem_ready.2 ⟨hun i hilt (by omega), ops[i], Array.getElem?_eq_getElem hilt, fun e he hb => ?_⟩
      have h1 := List.all_eq_true.1 hah i (List.mem_range.2 hilt)
      rw [Array.getElem?_eq_getElem hilt] at h1
      have h2 := Array.all_eq_true_iff_forall_mem.1 h1 e he
      rw [hb] at h2
      have h3 : e.on < i := by simpa using h2
      exact (hL e.on (by omega)).2 h3
    refine ⟨fun he => (by rw [he] at hmem; cases hmem), fun j hj => ?_⟩
    obtain rfl := hready j hj
    refine wpOp_mono (fun a' w' h' => ih (j + 1) _ a' w' (by omega) (by omega) (by simpa using hl) (fun x hx => ?_) h') h
    by_cases hxj : j = x
    · subst hxj
      refine ⟨fun _ => by omega, fun _ => ?_⟩
      rw [Array.getD_eq_getD_getElem?, Array.getElem?_setIfInBounds_self_of_lt (by omega)]; rfl
    · rw [getD_set_ne false hxj, hL x hx]; omega
def nth (Rs : List (Value → World → Prop)) (i : Nat) : Value → World → Prop := Rs.getD i (fun _ _ => True)
def Stab (E : World → World → Prop) (R : Value → World → Prop) : Prop := ∀ v w w', R v w → E w w' → R v w'
def Stabs (E : World → World → Prop) : List (Value → World → Prop) → Prop
  | [] => True
  | R :: l => Stab E R ∧ Stabs E l
theorem stab_nth {E : World → World → Prop} : ∀ {Rs : List (Value → World → Prop)}, Stabs E Rs → ∀ i v w w', nth Rs i v w → E w w' → nth Rs i v w'
  | [], _, i, v, w, w', _, _ => by simp [nth]
  | R :: l, h, 0, v, w, w', hr, hb => h.1 v w w' hr hb
  | R :: l, h, i + 1, v, w, w', hr, hb => stab_nth (Rs := l) h.2 i v w w' hr hb
def blS : Value → Option Nat
  | .slice (some a) n _ => if n = 0 then none else some a.block
  | _ => none
def blP : Value → Option Nat
  | .pointer (some a) => some a.block
  | _ => none
def blL (i : Nat) : Value → Option Nat
  | .agg cs => blS (cs.getD i undef)
  | _ => none
def laterB (ops : Array Oper) (i j d : Nat) : Bool := match ops[j]? with
  | some o => o.dst == some d && o.after.any fun e => Region.binds .any e && e.on == i
  | none => false
def ObB (E : World → World → Prop) (P : Program) (ops : Array Oper) (Q : Exit → Act → World → Prop) (S : World → Prop) (R : Nat → Value → World → Prop) (bl : Nat → Value → Option Nat) (nw : Nat → Bool) (a0 : Act) (F : (Tmp → Value) → Act) (i : Nat) (o : Oper) : Prop :=
  ∀ (f : Tmp → Value) (w : World), S w → DepAll R f w (deps ops o) → (∀ j d, laterB ops i j d = true → f d = a0.tmps.getD d undef) →
    ∀ K : Act → World → Prop, Shut (∀ v w', S w' → E w w' → R i v w' → (∀ k, bl i v = some k → (w.heap.size ≤ k ∧ k < w'.heap.size) ∨ (nw i = false ∧ ∃ p ∈ deps ops o, nw p.1 = false ∧ bl p.1 (f p.2) = some k)) → ∀ a', a' = (F f).put o.dst v → K a' w') →
      if Region.wanted o (yielded ops (F f).tmps) = true then Oper.wp P o (F f) w K Q else K ((F f).put o.dst undef) w
structure JB (pl : List Oper) (ops : Array Oper) (S : World → Prop) (R : Nat → Value → World → Prop) (bl : Nat → Value → Option Nat) (nw : Nat → Bool) (a0 : Act) (listed : Array Bool) (a : Act) (w : World) : Prop extends J pl ops S R a0 listed a w where
  old : ∀ i o d, ops[i]? = some o → o.dst = some d → listed.getD i false = false → a.tmps.getD d undef = a0.tmps.getD d undef
  rn : ∀ i o, ops[i]? = some o → o.dst = none → listed.getD i false = true → ∃ v, R i v w
  cl : ∀ i o, ops[i]? = some o → listed.getD i false = true → ∀ e ∈ o.after, Region.binds .any e = true → listed.getD e.on false = true
  fr : ∀ i o d k, ops[i]? = some o → o.dst = some d → listed.getD i false = true → bl i (a.tmps.getD d undef) = some k → k < w.heap.size
  ap : ∀ i j o o' d d' k, i ≠ j → nw j = true → ops[i]? = some o → ops[j]? = some o' → o.dst = some d → o'.dst = some d' → listed.getD i false = true → listed.getD j false = true → bl i (a.tmps.getD d undef) = some k → bl j (a.tmps.getD d' undef) ≠ some k
theorem JB.stepB {E : World → World → Prop} (hE : ∀ w w', E w w' → w.heap.size ≤ w'.heap.size) {pl : List Oper} {S : World → Prop} {R : Nat → Value → World → Prop} {bl : Nat → Value → Option Nat} {nw : Nat → Bool} {a0 a : Act} {listed : Array Bool} {w w' : World} (hap : apartB (dsts ops) = true) (hin : (dsts ops).all (· < a0.tmps.size) = true)
    (hR : ∀ i v w w', R i v w → E w w' → R i v w') (h : JB pl ops S R bl nw a0 listed a w) {i : Nat} {o : Oper} (hi : ops[i]? = some o) (hpl : o ∈ pl) (hlen : listed.size = ops.size) {v : Value} (hS : S w') (hb : E w w') (hv : R i v w') (hk : ∀ k, bl i v = some k → (w.heap.size ≤ k ∧ k < w'.heap.size) ∨ (nw i = false ∧ ∃ p ∈ deps ops o, nw p.1 = false ∧ bl p.1 (a.tmps.getD p.2 undef) = some k)) (hdep : ∀ p ∈ deps ops o, ∃ o', ops[p.1]? = some o' ∧ o'.dst = some p.2 ∧ listed.getD p.1 false = true) (hal : ∀ e ∈ o.after, Region.binds .any e = true → listed.getD e.on false = true) :
    JB pl ops S R bl nw a0 (listed.setIfInBounds i true) (a.put o.dst v) w' := by
  have hself : ∀ d, o.dst = some d → (a.put o.dst v).tmps.getD d undef = v := fun d hd => by
    have hlt : d < a0.tmps.size := by
      have := List.all_eq_true.1 hin d (List.mem_filterMap.2 ⟨o, Array.mem_toList_iff.2 (Array.mem_of_getElem? hi), hd⟩)
      exact of_decide_eq_true this
    rw [hd, Array.getD_eq_getD_getElem?, put_same a d v (by rw [h.same.n]; exact hlt)]; rfl
  have hother : ∀ j oj d, ops[j]? = some oj → oj.dst = some d → i ≠ j → (a.put o.dst v).tmps.getD d undef = a.tmps.getD d undef := fun j oj d hj hd hij => by
    have hne : o.dst ≠ some d := fun he => hij (dst_apart hap hi hj he hd)
    rw [Array.getD_eq_getD_getElem?, put_at _ _ _ _ hne, Array.getD_eq_getD_getElem?]
  have hset : ∀ x, listed.getD x false = true → (listed.setIfInBounds i true).getD x false = true := fun x hx => by
    by_cases hix : i = x
    · subst hix
      have hlt := (Array.getElem?_eq_some_iff.1 hi).1
      rw [Array.getD_eq_getD_getElem?, Array.getElem?_setIfInBounds_self_of_lt (by omega)]; rfl
    · rw [getD_set_ne false hix]; exact hx
  refine ⟨h.toJ.step hap hin hR hi hpl hlen hS hb hv, fun j oj d hj hd hl => ?_, fun j oj hj hd hl => ?_, fun j oj hj hl e he hbe => ?_, fun j oj d k hj hd hl hbl => ?_, fun x y ox oy dx dy k hxy hny hx hy hdx hdy hlx hly hbl => ?_⟩
  · by_cases hij : i = j
    · subst hij
      exfalso
      have hlt := (Array.getElem?_eq_some_iff.1 hi).1
      rw [Array.getD_eq_getD_getElem?, Array.getElem?_setIfInBounds_self_of_lt (by omega)] at hl
      cases hl
    · rw [hother j oj d hj hd hij]
      exact h.old j oj d hj hd (by rw [getD_set_ne false hij] at hl; exact hl)
  · by_cases hij : i = j
    · subst hij
      exact ⟨v, hv⟩
    · obtain ⟨v', hv'⟩ := h.rn j oj hj hd (by rw [getD_set_ne false hij] at hl; exact hl)
      exact ⟨v', hR _ _ _ _ hv' hb⟩
  · by_cases hij : i = j
    · subst hij
      rw [hi] at hj
      obtain rfl := Option.some.inj hj
      exact hset _ (hal e he hbe)
    · exact hset _ (h.cl j oj hj (by rw [getD_set_ne false hij] at hl; exact hl) e he hbe)
  · by_cases hij : i = j
    · subst hij
      rw [hi] at hj
      obtain rfl := Option.some.inj hj
      rw [hself d hd] at hbl
      rcases hk k hbl with h1 | ⟨-, p, hp, -, hbp⟩
      · exact h1.2
      · obtain ⟨o', ho', hd', hl'⟩ := hdep p hp
        have := h.fr p.1 o' p.2 k ho' hd' hl' hbp
        have := hE _ _ hb
        omega
    · rw [hother j oj d hj hd hij] at hbl
      have := h.fr j oj d k hj hd (by rw [getD_set_ne false hij] at hl; exact hl) hbl
      have := hE _ _ hb
      omega
  · by_cases hix : i = x
    · subst hix
      rw [hi] at hx
      obtain rfl := Option.some.inj hx
      rw [hself dx hdx] at hbl
      rw [hother y oy dy hy hdy hxy]
      intro hby
      have hly' : listed.getD y false = true := by rw [getD_set_ne false hxy] at hly; exact hly
      rcases hk k hbl with h2 | ⟨-, p, hp, hnp, hbp⟩
      · have h1 := h.fr y oy dy k hy hdy hly' hby
        omega
      · obtain ⟨o', ho', hd', hl'⟩ := hdep p hp
        have hpy : p.1 ≠ y := fun e => by rw [e, hny] at hnp; cases hnp
        exact h.ap p.1 y o' oy p.2 dy k hpy hny ho' hy hd' hdy hl' hly' hbp hby
    · rw [hother x ox dx hx hdx hix] at hbl
      by_cases hiy : i = y
      · subst hiy
        rw [hi] at hy
        obtain rfl := Option.some.inj hy
        rw [hself dy hdy]
        intro hby
        have h1 := h.fr x ox dx k hx hdx (by rw [getD_set_ne false hix] at hlx; exact hlx) hbl
        rcases hk k hby with h2 | ⟨h2, -⟩
        · omega
        · rw [hny] at h2; cases h2
      · rw [hother y oy dy hy hdy hiy]
        exact h.ap x y ox oy dx dy k hxy hny hx hy hdx hdy (by rw [getD_set_ne false hix] at hlx; exact hlx) (by rw [getD_set_ne false hiy] at hly; exact hly) hbl
theorem anyT_of {E : World → World → Prop} (hE : ∀ w w', E w w' → w.heap.size ≤ w'.heap.size) {S : World → Prop} {R : Nat → Value → World → Prop} {bl : Nat → Value → Option Nat} {nw : Nat → Bool} {a0 : Act} {F : (Tmp → Value) → Act} {m : Nat} (hmn : m ≤ ops.size) (hF : ∀ f, fillIn f (ops.toList.take m) a0 = F f) (hap : apartB (dsts ops) = true) (hin : (dsts ops).all (· < a0.tmps.size) = true) (hah : aheadB ops = true) (ht : tailB ops m = true)
    (hR : ∀ i v w w', R i v w → E w w' → R i v w')
    (hops : ∀ i o, i < m → ops[i]? = some o → ObB E P ops Q S R bl nw a0 F i o)
    (hend : ∀ (f : Tmp → Value) (w : World), S w → (∀ i o d, i < m → ops[i]? = some o → o.dst = some d → R i (f d) w) → (∀ i o, i < m → ops[i]? = some o → o.dst = none → ∃ v, R i v w) → (∀ i j o o' d d' k, i ≠ j → nw j = true → i < m → j < m → ops[i]? = some o → ops[j]? = some o' → o.dst = some d → o'.dst = some d' → bl i (f d) = some k → bl j (f d') ≠ some k) → wpOps P ops Q (List.range' m (ops.size - m)) (F f) w) :
    ∀ (fuel : Nat) (listed : Array Bool) (a : Act) (w : World), listed.size = ops.size → listed.toList.count false = fuel → (∀ j, m ≤ j → listed.getD j false = false) → JB (ops.toList.take m) ops S R bl nw a0 listed a w → wpAny P .any ops Q fuel listed a w := by
  have htail : ∀ (fuel : Nat) (listed : Array Bool) (a : Act) (w : World), listed.size = ops.size → listed.toList.count false = fuel → (∀ j, m ≤ j → listed.getD j false = false) → (∀ j, j < m → listed.getD j false = true) → JB (ops.toList.take m) ops S R bl nw a0 listed a w → wpAny P .any ops Q fuel listed a w := by
    intro fuel listed a w hl hc hT hA hJ
    have hcount : fuel = ops.size - m := by
      rw [← hc]
      have : listed.toList = List.replicate m true ++ List.replicate (ops.size - m) false := by
        apply List.ext_getElem?
        intro j
        by_cases hj : j < ops.size
        · have h1 : listed.toList[j]? = some (listed.getD j false) := by
            rw [Array.getD_eq_getD_getElem?, Array.getElem?_toList, Array.getElem?_eq_getElem (by omega)]; rfl
          rw [h1]
          by_cases hjm : j < m
          · rw [hA j hjm, List.getElem?_append_left (by simpa using hjm), List.getElem?_replicate, if_pos hjm]
          · rw [hT j (by omega), List.getElem?_append_right (by simp; omega), List.getElem?_replicate, if_pos (by simp; omega)]
        · rw [List.getElem?_eq_none (by simp; omega), List.getElem?_eq_none (by simp; omega)]
      rw [this, List.count_append]
      simp [List.count_replicate]
    subst hcount
    refine tail_run ht hah _ m listed a w (by omega) (Nat.le_refl _) hl (fun j hj => ⟨fun h => ?_, fun h => hA j h⟩) ?_
    · rcases Nat.lt_or_ge j m with h' | h'
      · exact h'
      · rw [hT j h'] at h; cases h
    · rw [hJ.same.fill, hF]
      exact hend _ w hJ.s (fun i o d hi ho hd => hJ.r i o d ho hd (hA i hi)) (fun i o hi ho hd => hJ.rn i o ho hd (hA i hi)) (fun i j o o' d d' k hij hnj hi hj ho ho' hd hd' hb => hJ.ap i j o o' d d' k hij hnj ho ho' hd hd' (hA i hi) (hA j hj) hb)
  intro fuel
  induction fuel with
  | zero =>
    intro listed a w hl hc hT hJ
    refine htail 0 listed a w hl hc hT (fun j hj => ?_) hJ
    have h1 : listed[j]'(by omega) ∈ listed.toList := by simp
    have h2 : listed[j]'(by omega) ≠ false := fun he => List.count_eq_zero.1 hc (he ▸ h1)
    rw [Array.getD_eq_getD_getElem?, Array.getElem?_eq_getElem (by omega)]
    simpa using h2
  | succ fuel ih =>
    intro listed a w hl hc hT hJ
    by_cases hall : ∀ j, j < m → listed.getD j false = true
    · exact htail (fuel + 1) listed a w hl hc hT hall hJ
    · have hne : Region.ready .any ops listed ≠ [] := by
        intro he
        refine hall ?_
        have hm : ∀ n i, i < n → i < m → listed.getD i false = true := by
          intro n
          induction n with
          | zero => intro i hi; omega
          | succ n ihn =>
            intro i hi him
            by_cases hlt : i < n
            · exact ihn i hlt him
            · obtain rfl : i = n := by omega
              have hio : i < ops.size := by omega
              cases hg : listed.getD i false with
              | true => rfl
              | false =>
                exfalso
                have hmem : i ∈ Region.ready .any ops listed := by
                  refine mem_ready.2 ⟨?_, ops[i], Array.getElem?_eq_getElem hio, fun e hem hbe => ?_⟩
                  · rw [Array.getD_eq_getD_getElem?, Array.getElem?_eq_getElem (by omega)] at hg ⊢; exact hg
                  · have h1 := List.all_eq_true.1 hah i (List.mem_range.2 hio)
                    rw [Array.getElem?_eq_getElem hio] at h1
                    have h2 := Array.all_eq_true_iff_forall_mem.1 h1 e hem
                    rw [hbe] at h2
                    have h3 : e.on < i := by simpa using h2
                    exact ihn e.on h3 (by omega)
                rw [he] at hmem
                cases hmem
        exact fun j hj => hm (j + 1) j (by omega) hj
      refine ⟨fun he => absurd he hne, fun i hi => ?_⟩
      obtain ⟨h1, o, ho, hal⟩ := mem_ready.1 hi
      have hlt := (Array.getElem?_eq_some_iff.1 ho).1
      have him : i < m := by
        rcases Nat.lt_or_ge i m with h' | h'
        · exact h'
        · exfalso
          exact hall (fun j hj => tail_spec (L := fun x => listed.getD x false = true) ht ho h' hJ.cl hal j (by omega))
      have hfill := hJ.same.fill
      rw [hF] at hfill
      have hdp : ∀ p ∈ deps ops o, ∃ o', ops[p.1]? = some o' ∧ o'.dst = some p.2 ∧ listed.getD p.1 false = true := fun p hp => by
        obtain ⟨e, he, hp⟩ := List.mem_filterMap.1 hp
        split at hp
        · rename_i hb
          obtain ⟨d, hd, rfl⟩ := Option.map_eq_some_iff.1 hp
          obtain ⟨o', ho', hd'⟩ := Option.bind_eq_some_iff.1 hd
          exact ⟨o', ho', hd', hal e (by simpa using he) hb⟩
        · cases hp
      have hob := hops i o him ho (fun d => a.tmps.getD d undef) w hJ.s (depAll_of (fun p hp => by
          obtain ⟨e, he, hp⟩ := List.mem_filterMap.1 hp
          split at hp
          · rename_i hb
            obtain ⟨d, hd, rfl⟩ := Option.map_eq_some_iff.1 hp
            obtain ⟨o', ho', hd'⟩ := Option.bind_eq_some_iff.1 hd
            exact hJ.r e.on o' d ho' hd' (hal e (by simpa using he) hb)
          · cases hp)) (fun j d hjd => by
          unfold laterB at hjd
          split at hjd
          · rename_i oj hoj
            simp only [Bool.and_eq_true, beq_iff_eq] at hjd
            obtain ⟨hd, hany⟩ := hjd
            obtain ⟨e, he, hb⟩ := Array.any_eq_true'.1 hany
            simp only [Bool.and_eq_true, beq_iff_eq] at hb
            have hun : listed.getD i false = false := by
              rw [Array.getD_eq_getD_getElem?, Array.getElem?_eq_getElem (by omega)] at h1 ⊢
              simpa using h1
            refine hJ.old j oj d hoj hd ?_
            cases hlj : listed.getD j false with
            | false => rfl
            | true =>
              have := hJ.cl j oj hoj hlj e he hb.1
              rw [hb.2, hun] at this
              cases this
          · cases hjd)
        (fun a' w' => wpAny P .any ops Q fuel (listed.setIfInBounds i true) a' w') (by
          intro v w' hS hb hv hbk a' ha'
          rw [ha', ← hfill]
          refine ih _ _ _ (by simpa using hl) ?_ (fun j hj => by rw [getD_set_ne false (by omega)]; exact hT j hj) (hJ.stepB hE hap hin hR ho (List.mem_of_getElem? (i := i) (by rw [List.getElem?_take, if_pos him]; simpa using ho)) hl hS hb hv hbk hdp hal)
          have := count_set_true listed.toList i (by
            rw [Array.getD_eq_getD_getElem?, Array.getElem?_eq_getElem (by omega)] at h1
            simp at h1
            simp [h1, hl, hlt])
          simp only [Array.toList_setIfInBounds]
          omega)
      rw [← hfill] at hob
      unfold wpOp
      rw [ho]
      simp only
      split
      · rename_i hw; rw [if_pos hw] at hob; exact Or.inl hob
      · rename_i hw; rw [if_neg hw] at hob; exact hob
def AllTo (Ob : Nat → Oper → Prop) : Nat → Nat → List Oper → Prop
  | 0, _, _ => True
  | _ + 1, _, [] => True
  | m + 1, i, o :: l => Ob i o ∧ AllTo Ob m (i + 1) l
theorem allTo_of {Ob : Nat → Oper → Prop} : ∀ (m : Nat) (l : List Oper) (k : Nat), AllTo Ob m k l → ∀ i o, i < m → l[i]? = some o → Ob (k + i) o
  | 0, _, _, _, i, o, h, _ => by omega
  | m + 1, [], _, _, i, o, _, h => by simp at h
  | m + 1, x :: l, k, ha, 0, o, _, h => by simp only [List.getElem?_cons_zero, Option.some.injEq] at h; subst h; exact ha.1
  | m + 1, x :: l, k, ha, i + 1, o, hm, h => by
    simp only [List.getElem?_cons_succ] at h
    have := allTo_of m l (k + 1) ha.2 i o (by omega) h
    rwa [show k + 1 + i = k + (i + 1) by omega] at this
theorem regionE {E : World → World → Prop} (hE : ∀ w w', E w w' → w.heap.size ≤ w'.heap.size) (S : World → Prop) (Rs : List (Value → World → Prop)) (bl : Nat → Value → Option Nat) (nw : Nat → Bool) (m : Nat) {l : List Oper} {a0 : Act} {w0 : World} {id : Nat} {F : (Tmp → Value) → Act} (hF : ∀ f, fillIn f (l.take m) a0 = F f) (hm : P.follows .mixedOrders = true) (hap : apartB (dsts l.toArray) = true) (hin : (dsts l.toArray).all (· < a0.tmps.size) = true) (hah : aheadB l.toArray = true) (ht : tailB l.toArray m = true) (hmn : m ≤ l.length)
    (hR : Stabs E Rs) (hS : S w0.drew)
    (hops : AllTo (ObB E P l.toArray Q S (nth Rs) bl nw a0 F) m 0 l)
    (hend : ∀ (f : Tmp → Value) (w : World), S w → (∀ i o d, i < m → l.toArray[i]? = some o → o.dst = some d → nth Rs i (f d) w) → (∀ i o, i < m → l.toArray[i]? = some o → o.dst = none → ∃ v, nth Rs i v w) → (∀ i j o o' d d' k, i ≠ j → nw j = true → i < m → j < m → l.toArray[i]? = some o → l.toArray[j]? = some o' → o.dst = some d → o'.dst = some d' → bl i (f d) = some k → bl j (f d') ≠ some k) → wpList P l.toArray Q (l.drop m) (F f) w) : (Code.region id l.toArray true).wp P Q a0 w0 := by
  refine wp_region_any hm (anyT_of hE (S := S) (R := nth Rs) (bl := bl) (nw := nw) (a0 := a0) (F := F) (m := m) (by simpa using hmn) (by simpa using hF) hap hin hah ht (stab_nth hR) (fun i o hi ho => ?_) (fun f w hSw hr hrn hbl => ?_) l.toArray.size _ a0 w0.drew (by simp) (by simp) (fun j hj => ?_) ⟨⟨⟨rfl, rfl, fun _ _ => rfl⟩, hS, fun i o d hi hd hl => ?_⟩, fun i o d hi hd hl => rfl, fun i o hi hd hl => ?_, fun i o hi hl => ?_, fun i o d k hi hd hl => ?_, fun i j o o' d d' k hij hnj hi hj hd hd' hl => ?_⟩)
  · have := allTo_of m l 0 hops i o hi (by simpa using ho)
    rwa [Nat.zero_add] at this
  · have h1 := hend f w hSw hr hrn hbl
    have h2 : wpOps P l.toArray Q (List.range' m (l.drop m).length) = wpList P l.toArray Q (l.drop m) := wpOps_eq_wpList _ m (fun j => by simp)
    rw [← h2] at h1
    simpa using h1
  · rw [Array.getD_eq_getD_getElem?, Array.getElem?_replicate]
    split <;> rfl
  · exfalso
    have hlt := (Array.getElem?_eq_some_iff.1 hi).1
    rw [Array.getD_eq_getD_getElem?, Array.getElem?_replicate, if_pos hlt] at hl
    cases hl
  · exfalso
    have hlt := (Array.getElem?_eq_some_iff.1 hi).1
    rw [Array.getD_eq_getD_getElem?, Array.getElem?_replicate, if_pos hlt] at hl
    cases hl
  · exfalso
    have hlt := (Array.getElem?_eq_some_iff.1 hi).1
    rw [Array.getD_eq_getD_getElem?, Array.getElem?_replicate, if_pos hlt] at hl
    cases hl
  · exfalso
    have hlt := (Array.getElem?_eq_some_iff.1 hi).1
    rw [Array.getD_eq_getD_getElem?, Array.getElem?_replicate, if_pos hlt] at hl
    cases hl
  · exfalso
    have hlt := (Array.getElem?_eq_some_iff.1 hi).1
    rw [Array.getD_eq_getD_getElem?, Array.getElem?_replicate, if_pos hlt] at hl
    cases hl
theorem regionT (S : World → Prop) (Rs : List (Value → World → Prop)) (bl : Nat → Value → Option Nat) (nw : Nat → Bool) (m : Nat) {l : List Oper} {a0 : Act} {w0 : World} {id : Nat} {F : (Tmp → Value) → Act} (hF : ∀ f, fillIn f (l.take m) a0 = F f) (hm : P.follows .mixedOrders = true) (hap : apartB (dsts l.toArray) = true) (hin : (dsts l.toArray).all (· < a0.tmps.size) = true) (hah : aheadB l.toArray = true) (ht : tailB l.toArray m = true) (hmn : m ≤ l.length)
    (hR : Stabs (fun w w' => Below w.heap.size w w') Rs) (hS : S w0.drew)
    (hops : AllTo (ObB (fun w w' => Below w.heap.size w w') P l.toArray Q S (nth Rs) bl nw a0 F) m 0 l)
    (hend : ∀ (f : Tmp → Value) (w : World), S w → (∀ i o d, i < m → l.toArray[i]? = some o → o.dst = some d → nth Rs i (f d) w) → (∀ i j o o' d d' k, i ≠ j → nw j = true → i < m → j < m → l.toArray[i]? = some o → l.toArray[j]? = some o' → o.dst = some d → o'.dst = some d' → bl i (f d) = some k → bl j (f d') ≠ some k) → wpList P l.toArray Q (l.drop m) (F f) w) : (Code.region id l.toArray true).wp P Q a0 w0 :=
  regionE (fun _ _ h => h.size) S Rs bl nw m hF hm hap hin hah ht hmn hR hS hops (fun f w h1 h2 _ h3 => hend f w h1 h2 h3)
end
end Go.Proofs.YtmdjmbdeeodehaaDoor.RegT
end
section
set_option linter.unusedVariables false
set_option linter.unusedSimpArgs false
namespace Go.Proofs.YtmdjmbdeeodehaaDoor.G
open Go Go.Proofs Go.RowKit Go.Proofs.YtmdjmbdeeodehaaDoorW.PrintWords Go.Proofs.YtmdjmbdeeodehaaDoorW.PrintLast Go.Proofs.YtmdjmbdeeodehaaDoorW.PrintMore Go.Proofs.YtmdjmbdeeodehaaDoor.Pure
structure InT (w : World) (A0 : Option Addr) (c0 : Nat) (l0 : List ByteArray) (A1 : Option Addr) (c1 : Nat) (l1 : List ByteArray) (a2 : Int) (A3 : Option Addr) (c3 : Nat) (l3 : List GRule) (t : TTree) (T : Option Addr) (tc : Nat) (W : World) : Prop where
  g : InB w A0 c0 l0 A1 c1 l1 a2 A3 c3 l3 W
  tb : W.heap[w.heap.size + 1]? = some (.cells #[.int .i64 t.f0, .int .i64 t.f1, .slice T t.f2.length tc] 55 (0, 0))
  tr : Kd.C k55 W T t.f2.length t.f2
section
variable {w : World} {A0 : Option Addr} {c0 : Nat} {l0 : List ByteArray} {A1 : Option Addr} {c1 : Nat} {l1 : List ByteArray} {a2 : Int} {A3 : Option Addr} {c3 : Nat} {l3 : List GRule} {t : TTree} {T : Option Addr} {tc : Nat} {W W' : World}
theorem InT.step (h : InT w A0 c0 l0 A1 c1 l1 a2 A3 c3 l3 t T tc W) (hb : Below W.heap.size W W') : InT w A0 c0 l0 A1 c1 l1 a2 A3 c3 l3 t T tc W' := ⟨h.g.step hb, blk_below h.tb hb, Kd.C_below h.tr hb⟩
theorem InT.t0 (h : InT w A0 c0 l0 A1 c1 l1 a2 A3 c3 l3 t T tc W) : W.cell? ⟨w.heap.size + 1, 0, none⟩ = some (.int .i64 t.f0) := (blk_cell h.tb 0).trans rfl
theorem InT.t1 (h : InT w A0 c0 l0 A1 c1 l1 a2 A3 c3 l3 t T tc W) : W.cell? ⟨w.heap.size + 1, 1, none⟩ = some (.int .i64 t.f1) := (blk_cell h.tb 1).trans rfl
theorem InT.t2 (h : InT w A0 c0 l0 A1 c1 l1 a2 A3 c3 l3 t T tc W) : W.cell? ⟨w.heap.size + 1, 2, none⟩ = some (.slice T t.f2.length tc) := (blk_cell h.tb 2).trans rfl
theorem InT.mk0 (w : World) (hr0 : Kd.C Kd.string w A0 l0.length l0) (hr1 : Kd.C Kd.string w A1 l1.length l1) (hr3 : Kd.C k32 w A3 l3.length l3) (ht : Kd.C k55 w T t.f2.length t.f2) :
    InT w A0 c0 l0 A1 c1 l1 a2 A3 c3 l3 t T tc ((w.alloc (.cells #[.slice A0 l0.length c0, .slice A1 l1.length c1, .int .i64 a2, .slice A3 l3.length c3] 25)).alloc (.cells #[.int .i64 t.f0, .int .i64 t.f1, .slice T t.f2.length tc] 55)) := by
  have h1 : Below w.heap.size w ((w.alloc (.cells #[.slice A0 l0.length c0, .slice A1 l1.length c1, .int .i64 a2, .slice A3 l3.length c3] 25)).alloc (.cells #[.int .i64 t.f0, .int .i64 t.f1, .slice T t.f2.length tc] 55)) := ((Below.refl _ w).alloc (Nat.le_refl _) _).alloc (by simp) _
  refine ⟨⟨⟨blk_alloc (blk_new w _) _, Kd.C_below hr0 h1, Kd.C_below hr1 h1, Kd.C_below hr3 h1⟩, h1⟩, ?_, Kd.C_below ht h1⟩
  have := blk_new (w.alloc (.cells #[.slice A0 l0.length c0, .slice A1 l1.length c1, .int .i64 a2, .slice A3 l3.length c3] 25)) (.cells #[.int .i64 t.f0, .int .i64 t.f1, .slice T t.f2.length tc] 55)
  rwa [show (w.alloc (.cells #[.slice A0 l0.length c0, .slice A1 l1.length c1, .int .i64 a2, .slice A3 l3.length c3] 25)).heap.size = w.heap.size + 1 by simp] at this
end
structure InK (w : World) (A0 : Option Addr) (c0 : Nat) (l0 : List ByteArray) (A1 : Option Addr) (c1 : Nat) (l1 : List ByteArray) (a2 : Int) (A3 : Option Addr) (c3 : Nat) (l3 : List GRule) (t : TTree) (T : Option Addr) (tc : Nat) (kb : Nat) (k : TTree) (K : Option Addr) (kc : Nat) (W : World) : Prop where
  i : InT w A0 c0 l0 A1 c1 l1 a2 A3 c3 l3 t T tc W
  kb : W.heap[kb]? = some (.cells #[.int .i64 k.f0, .int .i64 k.f1, .slice K k.f2.length kc] 55 (0, 0))
  kr : Kd.C k55 W K k.f2.length k.f2
section
variable {w : World} {A0 : Option Addr} {c0 : Nat} {l0 : List ByteArray} {A1 : Option Addr} {c1 : Nat} {l1 : List ByteArray} {a2 : Int} {A3 : Option Addr} {c3 : Nat} {l3 : List GRule} {t : TTree} {T : Option Addr} {tc : Nat} {kb : Nat} {k : TTree} {K : Option Addr} {kc : Nat} {W W' : World}
theorem InK.step (h : InK w A0 c0 l0 A1 c1 l1 a2 A3 c3 l3 t T tc kb k K kc W) (hb : Below W.heap.size W W') : InK w A0 c0 l0 A1 c1 l1 a2 A3 c3 l3 t T tc kb k K kc W' := ⟨h.i.step hb, blk_below h.kb hb, Kd.C_below h.kr hb⟩
theorem InK.k0 (h : InK w A0 c0 l0 A1 c1 l1 a2 A3 c3 l3 t T tc kb k K kc W) : W.cell? ⟨kb, 0, none⟩ = some (.int .i64 k.f0) := (blk_cell h.kb 0).trans rfl
theorem InK.k1 (h : InK w A0 c0 l0 A1 c1 l1 a2 A3 c3 l3 t T tc kb k K kc W) : W.cell? ⟨kb, 1, none⟩ = some (.int .i64 k.f1) := (blk_cell h.kb 1).trans rfl
theorem InK.k2 (h : InK w A0 c0 l0 A1 c1 l1 a2 A3 c3 l3 t T tc kb k K kc W) : W.cell? ⟨kb, 2, none⟩ = some (.slice K k.f2.length kc) := (blk_cell h.kb 2).trans rfl
end
theorem fitT_eq (l3 : List GRule) (t : TTree) : fitT l3 t = if t.f0 < 0 ∨ (l3.length : Int) ≤ t.f0 ∨ t.f1 ≠ 0 then 8 else if t.f2.length ≠ (ruleAt l3 t.f0).f1.length then 9 else fitTs l3 (ruleAt l3 t.f0).f1 t.f2 := by cases t; simp [fitT]
set_option maxHeartbeats 16000000 in
set_option maxRecDepth 100000 in
theorem nodeWrong_calls : ∀ (n : Nat) (A0 : Option Addr) (c0 : Nat) (l0 : List ByteArray) (A1 : Option Addr) (c1 : Nat) (l1 : List ByteArray) (a2 : Int) (A3 : Option Addr) (c3 : Nat) (l3 : List GRule) (hn : l3.length ≤ 1000000) (hok : l3.all ruleOk = true) (t : TTree) (T : Option Addr) (tc : Nat) (htn : cntT t ≤ n)
    (w : World) (hr0 : Kd.C Kd.string w A0 l0.length l0) (hr1 : Kd.C Kd.string w A1 l1.length l1) (hr3 : Kd.C k32 w A3 l3.length l3) (ht : Kd.C k55 w T t.f2.length t.f2),
    Calls Tryd.prog 101 #[.agg #[.slice A0 l0.length c0, .slice A1 l1.length c1, .int .i64 a2, .slice A3 l3.length c3], .agg #[.int .i64 t.f0, .int .i64 t.f1, .slice T t.f2.length tc]] w fun e w' => e = .returned (.int .i64 (fitT l3 t)) ∧ Below w.heap.size w w' := by
  intro n
  induction n with
  | zero => intro A0 c0 l0 A1 c1 l1 a2 A3 c3 l3 hn hok t T tc htn; have := cntT_pos t; omega
  | succ n ih =>
    intro A0 c0 l0 A1 c1 l1 a2 A3 c3 l3 hn hok t T tc htn w hr0 hr1 hr3 ht
    have hu := Tryd.underlying25
    have hu2 := Tryd.underlying55
    have hI : InT w A0 c0 l0 A1 c1 l1 a2 A3 c3 l3 t T tc _ := InT.mk0 w hr0 hr1 hr3 ht
    have HIH := Lib.hid ih
    have HTN := Lib.hid htn
    have HOK := Lib.hid hok
    have hz3 := hI.g.c3
    have ht0 := hI.t0
    have ht1 := hI.t1
    have ht2 := hI.t2
    have HI := Lib.hid hI
    have HF := Lib.hid (fitT_eq l3 t)
    generalize hrs : fitT l3 t = rs at *
    have HRS := Lib.hid hrs
    clear hr0 hr1 hr3 ht hI ih htn hok hrs
    by_cases h0 : t.f0 < 0
    · have h0b : decide (t.f0 < 0) = true := decide_eq_true h0
      have HE : Hid (rs = 8) := Lib.hid (by rw [HF.out, if_pos (Or.inl h0)])
      clear h0
      go_enter Tryd.func101, Tryd.ntmps101
      go_wp2
      go_ret
      rw [HE.out]
      exact ⟨rfl, HI.out.g.bel⟩
    have h0b : decide (t.f0 < 0) = false := decide_eq_false h0
    by_cases h1 : (l3.length : Int) ≤ t.f0
    · have h1b : decide (t.f0 ≥ (l3.length : Int)) = true := decide_eq_true h1
      have HE : Hid (rs = 8) := Lib.hid (by rw [HF.out, if_pos (Or.inr (Or.inl h1))])
      clear h0 h1
      go_enter Tryd.func101, Tryd.ntmps101
      go_wp2
      go_ret
      rw [HE.out]
      exact ⟨rfl, HI.out.g.bel⟩
    have h1b : decide (t.f0 ≥ (l3.length : Int)) = false := decide_eq_false h1
    by_cases h2 : t.f1 ≠ 0
    · have h2b : (t.f1 != 0) = true := bne_iff_ne.2 h2
      have HE : Hid (rs = 8) := Lib.hid (by rw [HF.out, if_pos (Or.inr (Or.inr h2))])
      clear h0 h1 h2
      go_enter Tryd.func101, Tryd.ntmps101
      go_wp2
      go_ret
      rw [HE.out]
      exact ⟨rfl, HI.out.g.bel⟩
    have h2b : (t.f1 != 0) = false := by rw [Decidable.not_not.1 h2]; rfl
    obtain ⟨q, hq⟩ : ∃ q : Nat, t.f0 = q := ⟨t.f0.toNat, by omega⟩
    obtain ⟨ad, R, rc, eA, hx0, hx1, hrc, hR⟩ := at_T32 HI.out.g.r3 t.f0 (by omega) (by omega)
    subst eA
    obtain ⟨r, hr⟩ : ∃ r, r = ruleAt l3 t.f0 := ⟨_, rfl⟩
    have hrk : ruleOk r = true := by
      have hlt : q < l3.length := by omega
      have : r = l3[q] := by rw [hr]; simp only [rd_T32, hq, Int.toNat_natCast, List.getD_eq_getElem?_getD, List.getElem?_eq_getElem hlt, Option.getD_some]
      rw [this]
      exact List.all_eq_true.1 HOK.out _ (List.getElem_mem _)
    simp only [← show r = rd_T32 l3 t.f0 from hr] at hx0 hx1 hrc hR
    have HE : Hid (rs = if t.f2.length ≠ r.f1.length then 9 else fitTs l3 r.f1 t.f2) := Lib.hid (by rw [HF.out, if_neg (by omega), ← hr])
    have HR := Lib.hid hR
    have HRK := Lib.hid hrk
    have HRC := Lib.hid hrc
    have hp0 : 0 ≤ t.f0 := by omega
    have hp1 : t.f0 < (l3.length : Int) := by omega
    have hrl : r.f1.length ≤ 1000000 := by
      simp only [ruleOk, Bool.and_eq_true, decide_eq_true_eq] at hrk
      exact hrk.1.2
    have htl : t.f2.length ≤ 9223372036854775807 := Kd.C_max HI.out.tr
    clear h0 h1 h2 hr hR hrk hrc HF
    have HQ := Lib.hid hq
    clear hq
    by_cases h3 : t.f2.length ≠ r.f1.length
    · have h3b : ((t.f2.length : Int) != (r.f1.length : Int)) = true := bne_iff_ne.2 (by omega)
      have HE2 : Hid (rs = 9) := Lib.hid (by rw [HE.out, if_pos h3])
      clear h3
      go_enter Tryd.func101, Tryd.ntmps101
      go_wp2
      go_ret
      rw [HE2.out]
      exact ⟨rfl, HI.out.g.bel⟩
    have h3b : ((t.f2.length : Int) != (r.f1.length : Int)) = false := by rw [Decidable.not_not.1 h3]; simp
    have HLL : Hid (t.f2.length = r.f1.length) := Lib.hid (Decidable.not_not.1 h3)
    have HE2 : Hid (rs = fitTs l3 r.f1 t.f2) := Lib.hid (by rw [HE.out, if_neg h3])
    clear h3
    go_enter Tryd.func101, Tryd.ntmps101
    go_wp2
    generalize hwB : ((w.alloc (.cells #[.slice A0 l0.length c0, .slice A1 l1.length c1, .int .i64 a2, .slice (some ad) l3.length c3] 25)).alloc (.cells #[.int .i64 t.f0, .int .i64 t.f1, .slice T t.f2.length tc] 55)) = wB at *
    clear hwB hz3 ht0 ht1 ht2 hx0 hx1
    go_loopw [41] (fun i wr => ∃ j : Nat, j ≤ r.f1.length ∧ i = .int .i64 j ∧ Hid (fitTs l3 (r.f1.drop j) (t.f2.drop j) = rs) ∧ Below wB.heap.size wB wr) (fun i _ => r.f1.length - (intOf i).toNat)
    case atStart => exact ⟨0, Nat.zero_le _, rfl, Lib.hid HE2.out.symm, Below.refl _ _⟩
    case round =>
      obtain ⟨j, hj, rfl, HRS2, hB⟩ := hrel
      by_cases hjl : j < r.f1.length
      · have hjt : j < t.f2.length := by rw [HLL.out]; exact hjl
        obtain ⟨kad, K2, kc, e1, hk0, hk1, hk2, hkc, hkr⟩ := at_T55 (Kd.C_below HI.out.tr hB) (j : Int) (by omega) (by omega)
        subst e1
        obtain ⟨sad, e2, hs0⟩ := Kd.at_int (Kd.C_below HR.out hB) (j : Int) (by omega) (by omega)
        subst e2
        obtain ⟨k, hk⟩ : ∃ k, k = t.f2[j] := ⟨_, rfl⟩
        obtain ⟨s, hs⟩ : ∃ s, s = r.f1[j] := ⟨_, rfl⟩
        have hrds : Go.Proofs.YtmdjmbdeeodehaaDoorW.PrintWords.rd r.f1 (j : Int) = s := by rw [hs]; simp only [Go.Proofs.YtmdjmbdeeodehaaDoorW.PrintWords.rd, Int.toNat_natCast, List.getD_eq_getElem?_getD, List.getElem?_eq_getElem hjl, Option.getD_some]
        rw [rdT_at _ j hjt, ← hk] at hk0 hk1 hk2 hkc hkr
        rw [hrds] at hs0
        rw [Int.toNat_natCast] at hk0 hk1 hk2 hs0
        have HRS3 : Hid (fitTs l3 (s :: r.f1.drop (j + 1)) (k :: t.f2.drop (j + 1)) = rs) := Lib.hid (by rw [hk, hs, ← List.drop_eq_getElem_cons hjt, ← List.drop_eq_getElem_cons hjl]; exact HRS2.out)
        have hcnt : cntT k ≤ n := by
          have h1 := cntTs_mem (List.getElem_mem hjt)
          have h2 := cntT_eq t
          have h3 := HTN.out
          rw [← hk] at h1; omega
        have HCN := Lib.hid hcnt
        have hsym : symOk s = true := by
          have h1 := HRK.out
          simp only [ruleOk, Bool.and_eq_true] at h1
          exact List.all_eq_true.1 h1.2 s (by rw [hs]; exact List.getElem_mem _)
        have HSY := Lib.hid hsym
        have HKR := Lib.hid hkr
        have hj0 : 0 ≤ (j : Int) := Int.natCast_nonneg _
        have hj1 : (j : Int) < (r.f1.length : Int) := by omega
        have hj2 : (j : Int) < (t.f2.length : Int) := by omega
        have hz2 : wr.cell? ⟨w.heap.size + 1, 2, none⟩ = some (.slice (some kad) t.f2.length tc) := (HI.out.step hB).t2
        have HJ := Lib.hid hjl
        clear hk hs hrds hcnt hsym hkr hjl hjt hj
        go_wp2_with fail
        have hK : InK w A0 c0 l0 A1 c1 l1 a2 (some ad) c3 l3 t (some kad) tc wr.heap.size k K2 kc (wr.alloc (.cells #[.int .i64 k.f0, .int .i64 k.f1, .slice K2 k.f2.length kc] 55)) :=
          ⟨(HI.out.step hB).step ((Below.refl _ _).alloc (Nat.le_refl _) _), blk_new _ _, Kd.C_alloc HKR.out _⟩
        have hB1 : Below wB.heap.size wB (wr.alloc (.cells #[.int .i64 k.f0, .int .i64 k.f1, .slice K2 k.f2.length kc] 55)) := hB.alloc hB.size _
        generalize hW1 : wr.alloc (.cells #[.int .i64 k.f0, .int .i64 k.f1, .slice K2 k.f2.length kc] 55) = W1 at *
        generalize hkb : wr.heap.size = kb at *
        clear hW1 hkb hz2 hk0 hk1 hk2 hs0
        obtain ⟨bk, hbk⟩ : ∃ b : Bool, b = decide (k.f0 < 0) := ⟨_, rfl⟩
        obtain ⟨bs, hbs⟩ : ∃ b : Bool, b = decide (s < 0) := ⟨_, rfl⟩
        have HBK : Hid (tree_Tree_leaf.f k.f0 k.f1 k.f2 = some bk) := Lib.hid (by rw [hbk]; rfl)
        have HBS : Hid (gram_Sym_IsTerm.f s = some bs) := Lib.hid (by rw [hbs]; rfl)
        have HRS4 : Hid ((if bk ≠ bs then 9 else if s < 0 then (if k.f1 ≠ s ∨ k.f0 ≠ -1 ∨ 0 < k.f2.length then 9 else fitTs l3 (r.f1.drop (j + 1)) (t.f2.drop (j + 1))) else if fitT l3 k ≠ 0 then fitT l3 k else if (ruleAt l3 k.f0).f0 ≠ s then 9 else fitTs l3 (r.f1.drop (j + 1)) (t.f2.drop (j + 1))) = rs) := Lib.hid (by rw [hbk, hbs, ← fitTs]; exact HRS3.out)
        have HKB := Lib.hid hbk
        have HSB := Lib.hid hbs
        clear hbk hbs
        refine (tree_Tree_leaf.calls k.f0 k.f1 K2 kc k.f2 bk _ hK.kr hkc HBK.out).mono ?_
        rintro e w5 ⟨rfl, hb5⟩
        have HK := Lib.hid (hK.step hb5)
        have HB1 := Lib.hid (hB1.trans (hb5.mono hB1.size))
        clear hb5 hK hB1
        by_cases hne : bk ≠ bs
        · have HE3 : Hid (rs = 9) := Lib.hid (by rw [← HRS4.out, if_pos hne])
          go_wp2_with fail
          refine (gram_Sym_IsTerm.calls s bs _ HBS.out).mono ?_
          rintro e w6 ⟨rfl, hd6⟩
          have HB2 := Lib.hid (HK.out.step hd6.below).i.g.bel
          clear hd6
          cases bk <;> cases bs <;> first | exact absurd rfl hne | skip
          all_goals
            clear hne
            go_wp2
            go_ret
            rw [HE3.out]
            exact ⟨rfl, HB2.out⟩
        obtain rfl : bk = bs := Decidable.not_not.1 hne
        clear hne
        go_wp2_with fail
        refine (gram_Sym_IsTerm.calls s bk _ HBS.out).mono ?_
        rintro e w6 ⟨rfl, hd6⟩
        have hK6 := Lib.hid (HK.out.step hd6.below)
        have HB6 := Lib.hid (HB1.out.trans (hd6.below.mono HB1.out.size))
        clear hd6 HK HB1
        by_cases hs0 : s < 0
        · obtain rfl : bk = true := by rw [HSB.out]; exact decide_eq_true hs0
          have HE3 : Hid ((if k.f1 ≠ s ∨ k.f0 ≠ -1 ∨ 0 < k.f2.length then 9 else fitTs l3 (r.f1.drop (j + 1)) (t.f2.drop (j + 1))) = rs) := Lib.hid (by have := HRS4.out; rwa [if_neg (by simp), if_pos hs0] at this)
          go_wp2_with fail
          refine (gram_Sym_IsTerm.calls s true _ HBS.out).mono ?_
          rintro e w7 ⟨rfl, hd7⟩
          have hK7 := hK6.out.step hd7.below
          have hB7 := HB6.out.trans (hd7.below.mono HB6.out.size)
          have hk0 := hK7.k0
          have hk1 := hK7.k1
          have hk2 := hK7.k2
          have HK7 := Lib.hid hK7
          have HB7 := Lib.hid hB7
          clear hd7 hK6 HB6 hK7 hB7
          by_cases hy : k.f1 ≠ s
          · have hyb : (k.f1 != s) = true := bne_iff_ne.2 hy
            have HE4 : Hid (rs = 9) := Lib.hid (by rw [← HE3.out, if_pos (Or.inl hy)])
            clear hy hs0
            go_wp2
            go_ret
            rw [HE4.out]
            exact ⟨rfl, HK7.out.i.g.bel⟩
          have hyb : (k.f1 != s) = false := by rw [Decidable.not_not.1 hy]; simp
          by_cases hlw : k.f0 ≠ -1 ∨ 0 < k.f2.length
          · have HLW : Hid (tree_leafWrong.f k.f0 k.f1 k.f2 = some 9) := Lib.hid (by
              unfold tree_leafWrong.f
              by_cases h : k.f0 = -1
              · rw [if_pos h, if_pos (by omega)]
              · rw [if_neg h])
            have HE4 : Hid (rs = 9) := Lib.hid (by rw [← HE3.out, if_pos (Or.inr hlw)])
            clear hy hs0 hlw
            go_wp2_with fail
            refine (tree_leafWrong.calls k.f0 k.f1 K2 kc k.f2 9 _ HK7.out.kr hkc HLW.out).mono ?_
            rintro e w8 ⟨rfl, hb8⟩
            have HK8 := Lib.hid (HK7.out.step hb8)
            clear hb8 hk0 hk1 hk2
            go_wp2
            go_ret
            rw [HE4.out]
            exact ⟨rfl, HK8.out.i.g.bel⟩
          · have HLW : Hid (tree_leafWrong.f k.f0 k.f1 k.f2 = some 0) := Lib.hid (by
              unfold tree_leafWrong.f
              rw [if_pos (by omega), if_neg (by omega)])
            have HE4 : Hid (fitTs l3 (r.f1.drop (j + 1)) (t.f2.drop (j + 1)) = rs) := Lib.hid (by rw [← HE3.out, if_neg (by omega)])
            clear hy hs0 hlw
            go_wp2_with fail
            refine (tree_leafWrong.calls k.f0 k.f1 K2 kc k.f2 0 _ HK7.out.kr hkc HLW.out).mono ?_
            rintro e w8 ⟨rfl, hb8⟩
            have HB8 := Lib.hid (HB7.out.trans (hb8.mono HB7.out.size))
            clear hb8 hk0 hk1 hk2
            go_wp2
            go_roundw
            case rel => exact ⟨j + 1, HJ.out, by go_num, HE4, HB8.out⟩
            case measure => have := HJ.out; simp [intOf]; omega
        · obtain rfl : bk = false := by rw [HSB.out]; exact decide_eq_false hs0
          have HE3 : Hid ((if fitT l3 k ≠ 0 then fitT l3 k else if (ruleAt l3 k.f0).f0 ≠ s then 9 else fitTs l3 (r.f1.drop (j + 1)) (t.f2.drop (j + 1))) = rs) := Lib.hid (by have := HRS4.out; rwa [if_neg (by simp), if_neg hs0] at this)
          go_wp2_with fail
          refine (gram_Sym_IsTerm.calls s false _ HBS.out).mono ?_
          rintro e w7 ⟨rfl, hd7⟩
          have hK7 := hK6.out.step hd7.below
          have hB7 := HB6.out.trans (hd7.below.mono HB6.out.size)
          have hk0 := hK7.k0
          have hk1 := hK7.k1
          have hk2 := hK7.k2
          have hg0 := hK7.i.g.c0
          have hg1 := hK7.i.g.c1
          have hg2 := hK7.i.g.c2
          have hg3 := hK7.i.g.c3
          have HK7 := Lib.hid hK7
          have HB7 := Lib.hid hB7
          clear hd7 hK6 HB6 hK7 hB7
          go_wp2_with fail
          refine (HIH.out A0 c0 l0 A1 c1 l1 a2 _ c3 l3 hn HOK.out k K2 kc HCN.out _ HK7.out.i.g.r0 HK7.out.i.g.r1 HK7.out.i.g.r3 HK7.out.kr).mono ?_
          rintro e w8 ⟨rfl, hb8⟩
          have hK8 := HK7.out.step hb8
          have HB8 := Lib.hid (HB7.out.trans (hb8.mono HB7.out.size))
          have HK8 := Lib.hid hK8
          clear hb8 hk0 hk1 hk2 hg0 hg1 hg2 hg3 HK7 HB7
          have HFI := Lib.hid (@fitT_in l3 k)
          generalize fitT l3 k = ek at *
          by_cases hek : ek ≠ 0
          · have hekb : (ek != 0) = true := bne_iff_ne.2 hek
            have HE4 : Hid (rs = ek) := Lib.hid (by rw [← HE3.out, if_pos hek])
            clear hek hs0 hK8
            go_wp2
            go_ret
            rw [HE4.out]
            exact ⟨rfl, HK8.out.i.g.bel⟩
          · have hekb : (ek != 0) = false := by rw [Decidable.not_not.1 hek]; rfl
            obtain ⟨hf0, hf1, -⟩ := HFI.out (Decidable.not_not.1 hek)
            have HE4 : Hid ((if (ruleAt l3 k.f0).f0 ≠ s then 9 else fitTs l3 (r.f1.drop (j + 1)) (t.f2.drop (j + 1))) = rs) := Lib.hid (by rw [← HE3.out, if_neg hek])
            obtain ⟨ad2, R2, rc2, eA, hx0, hx1, -, -⟩ := at_T32 hK8.i.g.r3 k.f0 hf0 (by omega)
            obtain rfl := Option.some.inj eA
            have hk0 := hK8.k0
            have hg3 := hK8.i.g.c3
            have hpl : Hid (gram_Sym_Place.f s = some s) := Lib.hid (by rw [place_f s HSY.out, if_neg (by omega)])
            generalize hq2 : (ruleAt l3 k.f0).f0 = q2 at *
            have hx0' : w8.cell? (ad.add (k.f0.toNat * 2)) = some (.int .i64 q2) := by rw [hx0, ← hq2]
            clear hek hx0 hx1 eA hK8 hq2
            by_cases hqs : q2 ≠ s
            · have hqb : (q2 != s) = true := bne_iff_ne.2 hqs
              have HE5 : Hid (rs = 9) := Lib.hid (by rw [← HE4.out, if_pos hqs])
              clear hqs
              go_wp2_with fail
              go_quiet ((go_at_call 79; exact Calls.quiet_of ((gram_Sym_Place.calls s s _ hpl.out).mono fun _ _ ⟨he, hd⟩ => ⟨he, hd.out⟩)))
              go_wp2
              go_ret
              rw [HE5.out]
              exact ⟨rfl, pw_below_drewN HK8.out.i.g.bel _⟩
            · have hqb : (q2 != s) = false := by rw [Decidable.not_not.1 hqs]; simp
              have HE5 : Hid (fitTs l3 (r.f1.drop (j + 1)) (t.f2.drop (j + 1)) = rs) := Lib.hid (by rw [← HE4.out, if_neg hqs])
              clear hqs
              go_wp2_with fail
              go_quiet ((go_at_call 79; exact Calls.quiet_of ((gram_Sym_Place.calls s s _ hpl.out).mono fun _ _ ⟨he, hd⟩ => ⟨he, hd.out⟩)))
              go_wp2
              go_roundw
              case rel => exact ⟨j + 1, HJ.out, by go_num, HE5, pw_below_drewN HB8.out _⟩
              case measure => have := HJ.out; simp [intOf]; omega
      · obtain rfl : j = r.f1.length := by omega
        have HE3 : Hid (rs = 0) := Lib.hid (by have := HRS2.out; rw [List.drop_length, fitTs] at this; exact this.symm; all_goals simp)
        have HI2 := Lib.hid (HI.out.step hB)
        clear hB hjl hj
        go_wp2
        go_ret
        rw [HE3.out]
        exact ⟨rfl, HI2.out.g.bel⟩
end Go.Proofs.YtmdjmbdeeodehaaDoor.G
end
section
set_option linter.unusedVariables false
set_option linter.unusedSimpArgs false
namespace Go.Proofs.YtmdjmbdeeodehaaDoor.G
open Go Go.Proofs Go.RowKit Go.Proofs.YtmdjmbdeeodehaaDoorW.PrintWords Go.Proofs.YtmdjmbdeeodehaaDoorW.PrintLast Go.Proofs.YtmdjmbdeeodehaaDoorW.PrintMore Go.Proofs.YtmdjmbdeeodehaaDoor.Pure
structure InV (w : World) (A0 : Option Addr) (n0 c0 : Nat) (A1 : Option Addr) (n1 c1 : Nat) (a2 : Int) (A3 : Option Addr) (c3 : Nat) (m3 : List S87) (t : RTree) (T : Option Addr) (tc : Nat) (W : World) : Prop where
  gb : W.heap[w.heap.size]? = some (.cells #[.slice A0 n0 c0, .slice A1 n1 c1, .int .i64 a2, .slice A3 m3.length c3] 63 (0, 0))
  r3 : Kd.C k87 W A3 m3.length m3
  bel : Below w.heap.size w W
  tb : W.heap[w.heap.size + 1]? = some (.cells #[.int .i64 t.f0, .int .i64 t.f1, .slice T t.f2.length tc] 58 (0, 0))
  tr : Kd.C k58 W T t.f2.length t.f2
section
variable {w : World} {A0 : Option Addr} {n0 c0 : Nat} {A1 : Option Addr} {n1 c1 : Nat} {a2 : Int} {A3 : Option Addr} {c3 : Nat} {m3 : List S87} {t : RTree} {T : Option Addr} {tc : Nat} {W W' : World}
theorem InV.step (h : InV w A0 n0 c0 A1 n1 c1 a2 A3 c3 m3 t T tc W) (hb : Below W.heap.size W W') : InV w A0 n0 c0 A1 n1 c1 a2 A3 c3 m3 t T tc W' := ⟨blk_below h.gb hb, Kd.C_below h.r3 hb, h.bel.trans (hb.mono h.bel.size), blk_below h.tb hb, Kd.C_below h.tr hb⟩
theorem InV.g0 (h : InV w A0 n0 c0 A1 n1 c1 a2 A3 c3 m3 t T tc W) : W.cell? ⟨w.heap.size, 0, none⟩ = some (.slice A0 n0 c0) := (blk_cell h.gb 0).trans rfl
theorem InV.g1 (h : InV w A0 n0 c0 A1 n1 c1 a2 A3 c3 m3 t T tc W) : W.cell? ⟨w.heap.size, 1, none⟩ = some (.slice A1 n1 c1) := (blk_cell h.gb 1).trans rfl
theorem InV.g2 (h : InV w A0 n0 c0 A1 n1 c1 a2 A3 c3 m3 t T tc W) : W.cell? ⟨w.heap.size, 2, none⟩ = some (.int .i64 a2) := (blk_cell h.gb 2).trans rfl
theorem InV.g3 (h : InV w A0 n0 c0 A1 n1 c1 a2 A3 c3 m3 t T tc W) : W.cell? ⟨w.heap.size, 3, none⟩ = some (.slice A3 m3.length c3) := (blk_cell h.gb 3).trans rfl
theorem InV.t0 (h : InV w A0 n0 c0 A1 n1 c1 a2 A3 c3 m3 t T tc W) : W.cell? ⟨w.heap.size + 1, 0, none⟩ = some (.int .i64 t.f0) := (blk_cell h.tb 0).trans rfl
theorem InV.t1 (h : InV w A0 n0 c0 A1 n1 c1 a2 A3 c3 m3 t T tc W) : W.cell? ⟨w.heap.size + 1, 1, none⟩ = some (.int .i64 t.f1) := (blk_cell h.tb 1).trans rfl
theorem InV.t2 (h : InV w A0 n0 c0 A1 n1 c1 a2 A3 c3 m3 t T tc W) : W.cell? ⟨w.heap.size + 1, 2, none⟩ = some (.slice T t.f2.length tc) := (blk_cell h.tb 2).trans rfl
theorem InV.mk0 (w : World) (hr3 : Kd.C k87 w A3 m3.length m3) (ht : Kd.C k58 w T t.f2.length t.f2) :
    InV w A0 n0 c0 A1 n1 c1 a2 A3 c3 m3 t T tc ((w.alloc (.cells #[.slice A0 n0 c0, .slice A1 n1 c1, .int .i64 a2, .slice A3 m3.length c3] 63)).alloc (.cells #[.int .i64 t.f0, .int .i64 t.f1, .slice T t.f2.length tc] 58)) := by
  have h1 : Below w.heap.size w ((w.alloc (.cells #[.slice A0 n0 c0, .slice A1 n1 c1, .int .i64 a2, .slice A3 m3.length c3] 63)).alloc (.cells #[.int .i64 t.f0, .int .i64 t.f1, .slice T t.f2.length tc] 58)) := ((Below.refl _ w).alloc (Nat.le_refl _) _).alloc (by simp) _
  refine ⟨blk_alloc (blk_new w _) _, Kd.C_below hr3 h1, h1, ?_, Kd.C_below ht h1⟩
  have := blk_new (w.alloc (.cells #[.slice A0 n0 c0, .slice A1 n1 c1, .int .i64 a2, .slice A3 m3.length c3] 63)) (.cells #[.int .i64 t.f0, .int .i64 t.f1, .slice T t.f2.length tc] 58)
  rwa [show (w.alloc (.cells #[.slice A0 n0 c0, .slice A1 n1 c1, .int .i64 a2, .slice A3 m3.length c3] 63)).heap.size = w.heap.size + 1 by simp] at this
end
structure InX (w : World) (A0 : Option Addr) (n0 c0 : Nat) (A1 : Option Addr) (n1 c1 : Nat) (a2 : Int) (A3 : Option Addr) (c3 : Nat) (m3 : List S87) (t : RTree) (T : Option Addr) (tc : Nat) (rb : Nat) (r : S87) (R : Option Addr) (rc : Nat) (W : World) : Prop where
  v : InV w A0 n0 c0 A1 n1 c1 a2 A3 c3 m3 t T tc W
  rb : W.heap[rb]? = some (.cells #[.int .i64 r.f0, .slice R r.f1.length rc] 87 (0, 0))
  rr : Kd.C (Kd.int .i64) W R r.f1.length r.f1
structure InY (w : World) (A0 : Option Addr) (n0 c0 : Nat) (A1 : Option Addr) (n1 c1 : Nat) (a2 : Int) (A3 : Option Addr) (c3 : Nat) (m3 : List S87) (t : RTree) (T : Option Addr) (tc : Nat) (rb : Nat) (r : S87) (R : Option Addr) (rc : Nat) (kb : Nat) (k : RTree) (K : Option Addr) (kc : Nat) (W : World) : Prop where
  x : InX w A0 n0 c0 A1 n1 c1 a2 A3 c3 m3 t T tc rb r R rc W
  kb : W.heap[kb]? = some (.cells #[.int .i64 k.f0, .int .i64 k.f1, .slice K k.f2.length kc] 58 (0, 0))
  kr : Kd.C k58 W K k.f2.length k.f2
section
variable {w : World} {A0 : Option Addr} {n0 c0 : Nat} {A1 : Option Addr} {n1 c1 : Nat} {a2 : Int} {A3 : Option Addr} {c3 : Nat} {m3 : List S87} {t : RTree} {T : Option Addr} {tc : Nat} {rb : Nat} {r : S87} {R : Option Addr} {rc : Nat} {kb : Nat} {k : RTree} {K : Option Addr} {kc : Nat} {W W' : World}
theorem InX.step (h : InX w A0 n0 c0 A1 n1 c1 a2 A3 c3 m3 t T tc rb r R rc W) (hb : Below W.heap.size W W') : InX w A0 n0 c0 A1 n1 c1 a2 A3 c3 m3 t T tc rb r R rc W' := ⟨h.v.step hb, blk_below h.rb hb, Kd.C_below h.rr hb⟩
theorem InX.b1 (h : InX w A0 n0 c0 A1 n1 c1 a2 A3 c3 m3 t T tc rb r R rc W) : W.cell? ⟨rb, 1, none⟩ = some (.slice R r.f1.length rc) := (blk_cell h.rb 1).trans rfl
theorem InY.step (h : InY w A0 n0 c0 A1 n1 c1 a2 A3 c3 m3 t T tc rb r R rc kb k K kc W) (hb : Below W.heap.size W W') : InY w A0 n0 c0 A1 n1 c1 a2 A3 c3 m3 t T tc rb r R rc kb k K kc W' := ⟨h.x.step hb, blk_below h.kb hb, Kd.C_below h.kr hb⟩
theorem InY.k0 (h : InY w A0 n0 c0 A1 n1 c1 a2 A3 c3 m3 t T tc rb r R rc kb k K kc W) : W.cell? ⟨kb, 0, none⟩ = some (.int .i64 k.f0) := (blk_cell h.kb 0).trans rfl
theorem InY.k1 (h : InY w A0 n0 c0 A1 n1 c1 a2 A3 c3 m3 t T tc rb r R rc kb k K kc W) : W.cell? ⟨kb, 1, none⟩ = some (.int .i64 k.f1) := (blk_cell h.kb 1).trans rfl
theorem InY.k2 (h : InY w A0 n0 c0 A1 n1 c1 a2 A3 c3 m3 t T tc rb r R rc kb k K kc W) : W.cell? ⟨kb, 2, none⟩ = some (.slice K k.f2.length kc) := (blk_cell h.kb 2).trans rfl
end
theorem fitR_eq (m3 : List S87) (t : RTree) : fitR m3 t = if t.f0 < 0 ∨ (m3.length : Int) ≤ t.f0 ∨ t.f1 ≠ 0 then 8 else if t.f2.length ≠ (rruleAt m3 t.f0).f1.length then 9 else fitRs m3 (rruleAt m3 t.f0).f1 t.f2 := by cases t; simp [fitR]
set_option maxHeartbeats 16000000 in
set_option maxRecDepth 100000 in
theorem fits_calls : ∀ (n : Nat) (A0 : Option Addr) (n0 c0 : Nat) (A1 : Option Addr) (n1 c1 : Nat) (a2 : Int) (A3 : Option Addr) (c3 : Nat) (m3 : List S87) (hn : m3.length ≤ 1000000) (hok : ∀ r ∈ m3, r.f1.length ≤ 1000000) (t : RTree) (T : Option Addr) (tc : Nat) (htn : cntR t ≤ n)
    (w : World) (hr3 : Kd.C k87 w A3 m3.length m3) (ht : Kd.C k58 w T t.f2.length t.f2),
    Calls Tryd.prog 103 #[.agg #[.slice A0 n0 c0, .slice A1 n1 c1, .int .i64 a2, .slice A3 m3.length c3], .agg #[.int .i64 t.f0, .int .i64 t.f1, .slice T t.f2.length tc]] w fun e w' => e = .returned (.int .i64 (fitR m3 t)) ∧ Below w.heap.size w w' := by
  intro n
  induction n with
  | zero => intro A0 n0 c0 A1 n1 c1 a2 A3 c3 m3 hn hok t T tc htn; have := cntR_pos t; omega
  | succ n ih =>
    intro A0 n0 c0 A1 n1 c1 a2 A3 c3 m3 hn hok t T tc htn w hr3 ht
    have hu := Tryd.underlying63
    have hu2 := Tryd.underlying58
    have hu3 := Tryd.underlying87
    have hI : InV w A0 n0 c0 A1 n1 c1 a2 A3 c3 m3 t T tc _ := InV.mk0 w hr3 ht
    have HIH := Lib.hid ih
    have HTN := Lib.hid htn
    have HOK := Lib.hid hok
    have hz3 := hI.g3
    have ht0 := hI.t0
    have ht1 := hI.t1
    have ht2 := hI.t2
    have HI := Lib.hid hI
    have HF := Lib.hid (fitR_eq m3 t)
    generalize hrs : fitR m3 t = rs at *
    have HRS := Lib.hid hrs
    clear hr3 ht hI ih htn hok hrs
    by_cases h0 : t.f0 < 0
    · have h0b : decide (t.f0 < 0) = true := decide_eq_true h0
      have HE : Hid (rs = 8) := Lib.hid (by rw [HF.out, if_pos (Or.inl h0)])
      clear h0
      go_enter Tryd.func103, Tryd.ntmps103
      go_wp2
      go_ret
      rw [HE.out]
      exact ⟨rfl, HI.out.bel⟩
    have h0b : decide (t.f0 < 0) = false := decide_eq_false h0
    by_cases h1 : (m3.length : Int) ≤ t.f0
    · have h1b : decide (t.f0 ≥ (m3.length : Int)) = true := decide_eq_true h1
      have HE : Hid (rs = 8) := Lib.hid (by rw [HF.out, if_pos (Or.inr (Or.inl h1))])
      clear h0 h1
      go_enter Tryd.func103, Tryd.ntmps103
      go_wp2
      go_ret
      rw [HE.out]
      exact ⟨rfl, HI.out.bel⟩
    have h1b : decide (t.f0 ≥ (m3.length : Int)) = false := decide_eq_false h1
    by_cases h2 : t.f1 ≠ 0
    · have h2b : (t.f1 != 0) = true := bne_iff_ne.2 h2
      have HE : Hid (rs = 8) := Lib.hid (by rw [HF.out, if_pos (Or.inr (Or.inr h2))])
      clear h0 h1 h2
      go_enter Tryd.func103, Tryd.ntmps103
      go_wp2
      go_ret
      rw [HE.out]
      exact ⟨rfl, HI.out.bel⟩
    have h2b : (t.f1 != 0) = false := by rw [Decidable.not_not.1 h2]; rfl
    obtain ⟨q, hq⟩ : ∃ q : Nat, t.f0 = q := ⟨t.f0.toNat, by omega⟩
    obtain ⟨ad, R, rc, eA, hx0, hx1, hrc, hR⟩ := at_T87 HI.out.r3 t.f0 (by omega) (by omega)
    subst eA
    obtain ⟨r, hr⟩ : ∃ r, r = rruleAt m3 t.f0 := ⟨_, rfl⟩
    have hrl : r.f1.length ≤ 1000000 := by
      have hlt : q < m3.length := by omega
      have : r = m3[q] := by rw [hr]; simp only [rd_T87, hq, Int.toNat_natCast, List.getD_eq_getElem?_getD, List.getElem?_eq_getElem hlt, Option.getD_some]
      rw [this]
      exact HOK.out _ (List.getElem_mem _)
    simp only [← show r = rd_T87 m3 t.f0 from hr] at hx0 hx1 hrc hR
    have HE : Hid (rs = if t.f2.length ≠ r.f1.length then 9 else fitRs m3 r.f1 t.f2) := Lib.hid (by rw [HF.out, if_neg (by omega), ← hr])
    have HR := Lib.hid hR
    have HRC := Lib.hid hrc
    have hp0 : 0 ≤ t.f0 := by omega
    have hp1 : t.f0 < (m3.length : Int) := by omega
    have htl : t.f2.length ≤ 9223372036854775807 := Kd.C_max HI.out.tr
    clear h0 h1 h2 hr hR hrc HF
    have HQ := Lib.hid hq
    clear hq
    by_cases h3 : t.f2.length ≠ r.f1.length
    · have h3b : ((t.f2.length : Int) != (r.f1.length : Int)) = true := bne_iff_ne.2 (by omega)
      have HE2 : Hid (rs = 9) := Lib.hid (by rw [HE.out, if_pos h3])
      clear h3
      go_enter Tryd.func103, Tryd.ntmps103
      go_wp2
      go_ret
      rw [HE2.out]
      exact ⟨rfl, HI.out.bel.alloc HI.out.bel.size _⟩
    have h3b : ((t.f2.length : Int) != (r.f1.length : Int)) = false := by rw [Decidable.not_not.1 h3]; simp
    have HLL : Hid (t.f2.length = r.f1.length) := Lib.hid (Decidable.not_not.1 h3)
    have HE2 : Hid (rs = fitRs m3 r.f1 t.f2) := Lib.hid (by rw [HE.out, if_neg h3])
    clear h3
    go_enter Tryd.func103, Tryd.ntmps103
    go_wp2
    generalize hwB : ((w.alloc (.cells #[.slice A0 n0 c0, .slice A1 n1 c1, .int .i64 a2, .slice (some ad) m3.length c3] 63)).alloc (.cells #[.int .i64 t.f0, .int .i64 t.f1, .slice T t.f2.length tc] 58)) = wA at *
    have hsz : wA.heap.size = w.heap.size + 1 + 1 := by rw [← hwB]; simp
    have hX : InX w A0 n0 c0 A1 n1 c1 a2 (some ad) c3 m3 t T tc (w.heap.size + 1 + 1) r R rc (wA.alloc (.cells #[.int .i64 r.f0, .slice R r.f1.length rc] 87)) :=
      ⟨HI.out.step ((Below.refl _ _).alloc (Nat.le_refl _) _), by rw [← hsz]; exact blk_new _ _, Kd.C_alloc HR.out _⟩
    have HX := Lib.hid hX
    generalize wA.alloc (.cells #[.int .i64 r.f0, .slice R r.f1.length rc] 87) = wB at *
    clear hwB hz3 ht0 ht1 ht2 hx0 hx1 hsz hX HR HI
    go_loopw [6] (fun i wr => ∃ j : Nat, j ≤ r.f1.length ∧ i = .int .i64 j ∧ Hid (fitRs m3 (r.f1.drop j) (t.f2.drop j) = rs) ∧ Below wB.heap.size wB wr) (fun i _ => r.f1.length - (intOf i).toNat)
    case atStart => exact ⟨0, Nat.zero_le _, rfl, Lib.hid HE2.out.symm, Below.refl _ _⟩
    case round =>
      obtain ⟨j, hj, rfl, HRS2, hB⟩ := hrel
      by_cases hjl : j < r.f1.length
      · have hjt : j < t.f2.length := by rw [HLL.out]; exact hjl
        obtain ⟨kad, K2, kc, e1, hk0, hk1, hk2, hkc, hkr⟩ := at_T58 (Kd.C_below HX.out.v.tr hB) (j : Int) (by omega) (by omega)
        subst e1
        obtain ⟨sad, e2, hs0⟩ := Kd.at_int (Kd.C_below HX.out.rr hB) (j : Int) (by omega) (by omega)
        subst e2
        obtain ⟨k, hk⟩ : ∃ k, k = t.f2[j] := ⟨_, rfl⟩
        obtain ⟨s, hs⟩ : ∃ s, s = r.f1[j] := ⟨_, rfl⟩
        have hrds : Go.Proofs.YtmdjmbdeeodehaaDoorW.PrintWords.rd r.f1 (j : Int) = s := by rw [hs]; simp only [Go.Proofs.YtmdjmbdeeodehaaDoorW.PrintWords.rd, Int.toNat_natCast, List.getD_eq_getElem?_getD, List.getElem?_eq_getElem hjl, Option.getD_some]
        rw [rdR_at _ j hjt, ← hk] at hk0 hk1 hk2 hkc hkr
        rw [hrds] at hs0
        rw [Int.toNat_natCast] at hk0 hk1 hk2 hs0
        have HRS3 : Hid (fitRs m3 (s :: r.f1.drop (j + 1)) (k :: t.f2.drop (j + 1)) = rs) := Lib.hid (by rw [hk, hs, ← List.drop_eq_getElem_cons hjt, ← List.drop_eq_getElem_cons hjl]; exact HRS2.out)
        have hcnt : cntR k ≤ n := by
          have h1 := cntRs_mem (List.getElem_mem hjt)
          have h2 := cntR_eq t
          have h3 := HTN.out
          rw [← hk] at h1; omega
        have HCN := Lib.hid hcnt
        have HKR := Lib.hid hkr
        have hj0 : 0 ≤ (j : Int) := Int.natCast_nonneg _
        have hj1 : (j : Int) < (r.f1.length : Int) := by omega
        have hj2 : (j : Int) < (t.f2.length : Int) := by omega
        have hz2 : wr.cell? ⟨w.heap.size + 1, 2, none⟩ = some (.slice (some kad) t.f2.length tc) := (HX.out.step hB).v.t2
        have hb1 : wr.cell? ⟨w.heap.size + 1 + 1, 1, none⟩ = some (.slice (some sad) r.f1.length rc) := (HX.out.step hB).b1
        have HS0 := Lib.hid hs0
        have HJ := Lib.hid hjl
        have hY : InY w A0 n0 c0 A1 n1 c1 a2 (some ad) c3 m3 t (some kad) tc (w.heap.size + 1 + 1) r (some sad) rc wr.heap.size k K2 kc (wr.alloc (.cells #[.int .i64 k.f0, .int .i64 k.f1, .slice K2 k.f2.length kc] 58)) :=
          ⟨(HX.out.step hB).step ((Below.refl _ _).alloc (Nat.le_refl _) _), blk_new _ _, Kd.C_alloc HKR.out _⟩
        have hB1 : Below wB.heap.size wB (wr.alloc (.cells #[.int .i64 k.f0, .int .i64 k.f1, .slice K2 k.f2.length kc] 58)) := hB.alloc hB.size _
        have hk0y := hY.k0
        have hk1y := hY.k1
        have hk2y := hY.k2
        have hb1y := hY.x.b1
        have hs0y : (wr.alloc (.cells #[.int .i64 k.f0, .int .i64 k.f1, .slice K2 k.f2.length kc] 58)).cell? (sad.add j) = some (.int .i64 s) := (((Below.refl wr.heap.size wr).alloc (Nat.le_refl _) _).cell (World.block_lt_of_cell? _ _ hs0)).trans hs0
        have HY := Lib.hid hY
        have HB1 := Lib.hid hB1
        clear hk hs hrds hcnt hkr hjl hjt hj hB hB1 hY
        by_cases hs1 : s < 0
        · have hsb : decide (s < 0) = true := decide_eq_true hs1
          have HE3 : Hid ((if k.f0 ≠ -1 ∨ k.f1 ≠ s ∨ 0 < k.f2.length then 9 else fitRs m3 (r.f1.drop (j + 1)) (t.f2.drop (j + 1))) = rs) := Lib.hid (by have := HRS3.out; rw [fitRs, if_pos hs1] at this; exact this)
          clear hs1
          by_cases hc0 : k.f0 ≠ -1
          · have hc0b : (k.f0 != -1) = true := bne_iff_ne.2 hc0
            have HE4 : Hid (rs = 9) := Lib.hid (by rw [← HE3.out, if_pos (Or.inl hc0)])
            clear hc0
            go_wp2_with fail
            go_quiet (fail)
            go_wp2
            go_ret
            rw [HE4.out]
            exact ⟨rfl, pw_below_drewN HY.out.x.v.bel _⟩
          have hc0b : (k.f0 != -1) = false := by rw [Decidable.not_not.1 hc0]; rfl
          by_cases hc1 : k.f1 ≠ s
          · have hc1b : (k.f1 != s) = true := bne_iff_ne.2 hc1
            have HE4 : Hid (rs = 9) := Lib.hid (by rw [← HE3.out, if_pos (Or.inr (Or.inl hc1))])
            clear hc0 hc1
            go_wp2_with fail
            go_quiet (fail)
            go_wp2
            go_ret
            rw [HE4.out]
            exact ⟨rfl, pw_below_drewN HY.out.x.v.bel _⟩
          have hc1b : (k.f1 != s) = false := by rw [Decidable.not_not.1 hc1]; simp
          by_cases hc2 : 0 < k.f2.length
          · have hc2b : decide ((k.f2.length : Int) > 0) = true := decide_eq_true (by omega)
            have HE4 : Hid (rs = 9) := Lib.hid (by rw [← HE3.out, if_pos (Or.inr (Or.inr hc2))])
            clear hc0 hc1
            go_wp2_with fail
            go_quiet (fail)
            go_wp2
            go_ret
            rw [HE4.out]
            exact ⟨rfl, pw_below_drewN HY.out.x.v.bel _⟩
          · have hc2b : decide ((k.f2.length : Int) > 0) = false := decide_eq_false (by omega)
            have HE4 : Hid (fitRs m3 (r.f1.drop (j + 1)) (t.f2.drop (j + 1)) = rs) := Lib.hid (by rw [← HE3.out, if_neg (by omega)])
            clear hc0 hc1
            go_wp2_with fail
            go_quiet (fail)
            go_wp2
            go_roundw
            case rel => exact ⟨j + 1, HJ.out, by go_num, HE4, pw_below_drewN HB1.out _⟩
            case measure => have := HJ.out; simp [intOf]; omega
        · have hsb : decide (s < 0) = false := decide_eq_false hs1
          have HE3 : Hid ((if k.f0 < 0 then 9 else if fitR m3 k ≠ 0 then fitR m3 k else if (rruleAt m3 k.f0).f0 ≠ s then 9 else fitRs m3 (r.f1.drop (j + 1)) (t.f2.drop (j + 1))) = rs) := Lib.hid (by have := HRS3.out; rw [fitRs, if_neg hs1] at this; exact this)
          clear hs1
          by_cases hc0 : k.f0 < 0
          · have hc0b : decide (k.f0 < 0) = true := decide_eq_true hc0
            have HE4 : Hid (rs = 9) := Lib.hid (by rw [← HE3.out, if_pos hc0])
            clear hc0
            go_wp2
            go_ret
            rw [HE4.out]
            exact ⟨rfl, HY.out.x.v.bel⟩
          have hc0b : decide (k.f0 < 0) = false := decide_eq_false hc0
          have HE3' : Hid ((if fitR m3 k ≠ 0 then fitR m3 k else if (rruleAt m3 k.f0).f0 ≠ s then 9 else fitRs m3 (r.f1.drop (j + 1)) (t.f2.drop (j + 1))) = rs) := Lib.hid (by rw [← HE3.out, if_neg hc0])
          have hg0 := HY.out.x.v.g0
          have hg1 := HY.out.x.v.g1
          have hg2 := HY.out.x.v.g2
          have hg3 := HY.out.x.v.g3
          clear hc0 HE3
          go_wp2_with fail
          refine (HIH.out A0 n0 c0 A1 n1 c1 a2 _ c3 m3 hn HOK.out k K2 kc HCN.out _ HY.out.x.v.r3 HY.out.kr).mono ?_
          rintro e w8 ⟨rfl, hb8⟩
          have hY8 := HY.out.step hb8
          have HB8 := Lib.hid (HB1.out.trans (hb8.mono HB1.out.size))
          have HY8 := Lib.hid hY8
          have hs8 := (hb8.cell (World.block_lt_of_cell? _ _ hs0y)).trans hs0y
          clear hb8 hk0y hk1y hk2y hb1y hs0y hg0 hg1 hg2 hg3 HY HB1 hz2 hb1 hs0 hk0 hk1 hk2
          have HFI := Lib.hid (@fitR_in m3 k)
          generalize fitR m3 k = ek at *
          by_cases hek : ek ≠ 0
          · have hekb : (ek != 0) = true := bne_iff_ne.2 hek
            have HE4 : Hid (rs = ek) := Lib.hid (by rw [← HE3'.out, if_pos hek])
            clear hek hY8
            go_wp2
            go_ret
            rw [HE4.out]
            exact ⟨rfl, HY8.out.x.v.bel⟩
          · have hekb : (ek != 0) = false := by rw [Decidable.not_not.1 hek]; rfl
            obtain ⟨hf0, hf1, -⟩ := HFI.out (Decidable.not_not.1 hek)
            have HE4 : Hid ((if (rruleAt m3 k.f0).f0 ≠ s then 9 else fitRs m3 (r.f1.drop (j + 1)) (t.f2.drop (j + 1))) = rs) := Lib.hid (by rw [← HE3'.out, if_neg hek])
            obtain ⟨ad2, R2, rc2, eA, hx0, hx1, -, -⟩ := at_T87 hY8.x.v.r3 k.f0 hf0 (by omega)
            obtain rfl := Option.some.inj eA
            have hk0 := hY8.k0
            have hg3 := hY8.x.v.g3
            have hb1 := hY8.x.b1
            generalize hq2 : (rruleAt m3 k.f0).f0 = q2 at *
            have hx0' : w8.cell? (ad.add (k.f0.toNat * 2)) = some (.int .i64 q2) := by rw [hx0, ← hq2]
            clear hek hx0 hx1 eA hY8 hq2
            by_cases hqs : q2 ≠ s
            · have hqb : (q2 != s) = true := bne_iff_ne.2 hqs
              have HE5 : Hid (rs = 9) := Lib.hid (by rw [← HE4.out, if_pos hqs])
              clear hqs
              go_wp2_with fail
              go_quiet (fail)
              go_wp2
              go_ret
              rw [HE5.out]
              exact ⟨rfl, pw_below_drewN HY8.out.x.v.bel _⟩
            · have hqb : (q2 != s) = false := by rw [Decidable.not_not.1 hqs]; simp
              have HE5 : Hid (fitRs m3 (r.f1.drop (j + 1)) (t.f2.drop (j + 1)) = rs) := Lib.hid (by rw [← HE4.out, if_neg hqs])
              clear hqs
              go_wp2_with fail
              go_quiet (fail)
              go_wp2
              go_roundw
              case rel => exact ⟨j + 1, HJ.out, by go_num, HE5, pw_below_drewN HB8.out _⟩
              case measure => have := HJ.out; simp [intOf]; omega
      · obtain rfl : j = r.f1.length := by omega
        have HE3 : Hid (rs = 0) := Lib.hid (by have := HRS2.out; rw [List.drop_length, fitRs] at this; exact this.symm; all_goals simp)
        have hX2 := HX.out.step hB
        have hb1 := hX2.b1
        have HX2 := Lib.hid hX2
        clear hB hjl hj hX2
        go_wp2
        go_ret
        rw [HE3.out]
        exact ⟨rfl, HX2.out.v.bel⟩
end Go.Proofs.YtmdjmbdeeodehaaDoor.G
end
