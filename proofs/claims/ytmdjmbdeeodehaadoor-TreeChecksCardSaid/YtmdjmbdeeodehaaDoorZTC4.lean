/- TreeChecks of the law03 answers true for every grammar and every list of parts: the tree that the parts build is told alike by the program and by the document (Check and Root): part 5 of 6 of its proof, packed by a program of this session out of the texts GRef022, RefC, TreeC, TreeX, TreeY, TreeD. -/
import Derived.Test.YtmdjmbdeeodehaaDoorZTC3
import Derived.Laws.EntriesVeiled
import Derived.Deep.RegionHeld3
import Derived.Lib.FrozenHead2
import Derived.Lib.OthersKept
section
namespace Go.Proofs.YtmdjmbdeeodehaaDoor.G
open Go.RowKit Go.Proofs.YtmdjmbdeeodehaaDoorW.PrintWords Go.Proofs.YtmdjmbdeeodehaaDoorW.PrintLast Go.Proofs.YtmdjmbdeeodehaaDoorW.PrintMore
attribute [local go_sem] max2_int min2_int max_two min_two max_three min_three max_four min_four
attribute [local go_sem] Go.Proofs.YtmdjmbdeeodehaaDoorOwn.isSome_setCell
set_option linter.unusedVariables false
set_option linter.unusedSimpArgs false
mutual
def wickerref02_Check.j0 : Nat → Bool → List ByteArray → List ByteArray → Int → List (S87) → Option (Int)
 | 0, _, _, _, _, _ => none
 | k + 1, x30, x102000, x102001, x102002, x102003 => if x30 = true then (some 11) else (wickerref02_Check.l0 k 0 x102000 x102001 x102002 x102003)
def wickerref02_Check.l0 : Nat → Int → List ByteArray → List ByteArray → Int → List (S87) → Option (Int)
 | 0, _, _, _, _, _ => none
 | k + 1, x3, x102000, x102001, x102002, x102003 => if x3 < (x102000.length : Int) then (if 0 ≤ x3 then ((wickerref01_Name.f k (rdOf ByteArray.empty x102000 x3)).bind fun t103 => (if t103 = true then (wickerref02_Check.l0 k (wrap64 (x3 + 1)) x102000 x102001 x102002 x102003) else (some 1))) else (none)) else (wickerref02_Check.l1 k 0 x102000 x102001 x102002 x102003)
def wickerref02_Check.l1 : Nat → Int → List ByteArray → List ByteArray → Int → List (S87) → Option (Int)
 | 0, _, _, _, _, _ => none
 | k + 1, x4, x102000, x102001, x102002, x102003 => if x4 < (x102001.length : Int) then (if 0 ≤ x4 then ((wickerref01_Mark.f (rdOf ByteArray.empty x102001 x4)).bind fun t105 => (if t105 = true then (wickerref02_Check.l1 k (wrap64 (x4 + 1)) x102000 x102001 x102002 x102003) else (some 1))) else (none)) else ((wickerref02_twice.f k x102000).bind fun t106 => (if t106 = true then (wickerref02_Check.j3 k true x102000 x102001 x102002 x102003) else ((wickerref02_twice.f k x102001).bind fun t107 => (wickerref02_Check.j3 k t107 x102000 x102001 x102002 x102003))))
def wickerref02_Check.j3 : Nat → Bool → List ByteArray → List ByteArray → Int → List (S87) → Option (Int)
 | 0, _, _, _, _, _ => none
 | k + 1, x66, x102000, x102001, x102002, x102003 => if x66 = true then (some 2) else (if x102002 < 0 then (wickerref02_Check.j4 k true x102000 x102001 x102002 x102003) else (wickerref02_Check.j4 k (decide (x102002 ≥ (x102000.length : Int))) x102000 x102001 x102002 x102003))
def wickerref02_Check.j4 : Nat → Bool → List ByteArray → List ByteArray → Int → List (S87) → Option (Int)
 | 0, _, _, _, _, _ => none
 | k + 1, x77, x102000, x102001, x102002, x102003 => if x77 = true then (some 3) else (wickerref02_Check.l2 k 0 x102000 x102001 x102002 x102003)
def wickerref02_Check.l2 : Nat → Int → List ByteArray → List ByteArray → Int → List (S87) → Option (Int)
 | 0, _, _, _, _, _ => none
 | k + 1, x5, x102000, x102001, x102002, x102003 => if x5 < (x102003.length : Int) then (if 0 ≤ x5 then (if ((rd_T87 x102003 x5).f0) < 0 then (wickerref02_Check.j6 k x5 true x102000 x102001 x102002 x102003 ((rd_T87 x102003 x5).f0) ((rd_T87 x102003 x5).f1)) else (wickerref02_Check.j6 k x5 (decide (((rd_T87 x102003 x5).f0) ≥ (x102000.length : Int))) x102000 x102001 x102002 x102003 ((rd_T87 x102003 x5).f0) ((rd_T87 x102003 x5).f1))) else (none)) else (wickerref02_Check.l4 k 0 x102000 x102001 x102002 x102003)
def wickerref02_Check.j6 : Nat → Int → Bool → List ByteArray → List ByteArray → Int → List (S87) → Int → List Int → Option (Int)
 | 0, _, _, _, _, _, _, _, _ => none
 | k + 1, x5, x100, x102000, x102001, x102002, x102003, x110000, x110001 => if x100 = true then (some 3) else (wickerref02_Check.l3 k x5 0 x102000 x102001 x102002 x102003 x110000 x110001)
def wickerref02_Check.l3 : Nat → Int → Int → List ByteArray → List ByteArray → Int → List (S87) → Int → List Int → Option (Int)
 | 0, _, _, _, _, _, _, _, _ => none
 | k + 1, x5, x7, x102000, x102001, x102002, x102003, x110000, x110001 => if x7 < (x110001.length : Int) then (if 0 ≤ x7 then ((wickerref02_Has.f x102000 x102001 x102002 x102003 (rd x110001 x7)).bind fun t111 => (if t111 = true then (wickerref02_Check.l3 k x5 (wrap64 (x7 + 1)) x102000 x102001 x102002 x102003 x110000 x110001) else (some 3))) else (none)) else (if (x110001.length : Int) > 64 then (some 5) else (wickerref02_Check.l2 k (wrap64 (x5 + 1)) x102000 x102001 x102002 x102003))
def wickerref02_Check.l4 : Nat → Int → List ByteArray → List ByteArray → Int → List (S87) → Option (Int)
 | 0, _, _, _, _, _ => none
 | k + 1, x8, x102000, x102001, x102002, x102003 => if x8 < (x102003.length : Int) then (if 0 ≤ x8 then ((wickerref02_Find.f k x102003 ((rd_T87 x102003 x8).f0) ((rd_T87 x102003 x8).f1)).bind fun t113 => (if t113 < x8 then (some 2) else (wickerref02_Check.l4 k (wrap64 (x8 + 1)) x102000 x102001 x102002 x102003))) else (none)) else (some 0)
end
def wickerref02_Check.f (k : Nat) (l0_0 : List ByteArray) (l0_1 : List ByteArray) (a0_2 : Int) (l0_3 : List (S87)) : Option (Int) := if (l0_0.length : Int) < 1 then (wickerref02_Check.j0 k true l0_0 l0_1 a0_2 l0_3) else (if (l0_0.length : Int) > 2048 then (wickerref02_Check.j0 k true l0_0 l0_1 a0_2 l0_3) else (if (l0_1.length : Int) > 2048 then (wickerref02_Check.j0 k true l0_0 l0_1 a0_2 l0_3) else (wickerref02_Check.j0 k (decide ((l0_3.length : Int) > 8192)) l0_0 l0_1 a0_2 l0_3)))
def wickerref02_Check.T26 : Bool × List (List Nat × List Nat) := (true, [([], []), ([], []), ([1], [1]), ([], []), ([2, 3], [2, 3]), ([4], [4]), ([0, 5], [0, 5]), ([6], [6])])
def wickerref02_Check.B26 : List Nat := [0, 0, 2, 0, 14, 30, 63, 127]
theorem wickerref02_Check.tab26 : rtab .any (opsOf Tryd.f84 26) = wickerref02_Check.T26 := by kernel_rfl
theorem wickerref02_Check.bits26 : waitsOk wickerref02_Check.T26.2 wickerref02_Check.B26 = true := by kernel_rfl
def wickerref02_Check.T33 : Bool × List (List Nat × List Nat) := (true, [([], []), ([0], [0]), ([], []), ([2], [2]), ([], []), ([3, 4], [3, 4]), ([5], [5]), ([1, 6], [1, 6]), ([], []), ([7, 8], [7, 8])])
def wickerref02_Check.B33 : List Nat := [0, 1, 0, 4, 0, 28, 60, 127, 0, 511]
theorem wickerref02_Check.tab33 : rtab .any (opsOf Tryd.f84 33) = wickerref02_Check.T33 := by kernel_rfl
theorem wickerref02_Check.bits33 : waitsOk wickerref02_Check.T33.2 wickerref02_Check.B33 = true := by kernel_rfl
set_option maxHeartbeats 8000000 in
set_option maxRecDepth 100000 in
theorem wickerref02_Check.calls (k : Nat) (A0_0 : Option Addr) (c0_0 : Nat) (l0_0 : List ByteArray) (A0_1 : Option Addr) (c0_1 : Nat) (l0_1 : List ByteArray) (a0_2 : Int) (A0_3 : Option Addr) (c0_3 : Nat) (l0_3 : List (S87)) (r : Int) (w : World) (hr0_0 : Kd.C Kd.string w A0_0 l0_0.length l0_0) (hc0_0 : l0_0.length ≤ c0_0) (hr0_1 : Kd.C Kd.string w A0_1 l0_1.length l0_1) (hc0_1 : l0_1.length ≤ c0_1) (hr0_3 : Kd.C k87 w A0_3 l0_3.length l0_3) (hc0_3 : l0_3.length ≤ c0_3) (h : wickerref02_Check.f k l0_0 l0_1 a0_2 l0_3 = some r) :
  Calls Tryd.prog 84 #[.agg #[.slice A0_0 l0_0.length c0_0, .slice A0_1 l0_1.length c0_1, .int .i64 a0_2, .slice A0_3 l0_3.length c0_3]] w fun e w' => e = .returned (.int .i64 r) ∧ Below w.heap.size w w' := by
 have hu63 := Tryd.underlying63
 have hu87 := Tryd.underlying87
 have HR0_0 := Aside0.mk hr0_0
 have HC0_0 := Aside0.mk hc0_0
 clear hr0_0 hc0_0
 have HR0_1 := Aside0.mk hr0_1
 have HC0_1 := Aside0.mk hc0_1
 clear hr0_1 hc0_1
 have HR0_3 := Aside0.mk hr0_3
 have HC0_3 := Aside0.mk hc0_3
 clear hr0_3 hc0_3
 have HB := Aside0.mk (Below.refl w.heap.size w)
 have H : (if (l0_0.length : Int) < 1 then (wickerref02_Check.j0 k true l0_0 l0_1 a0_2 l0_3) else (if (l0_0.length : Int) > 2048 then (wickerref02_Check.j0 k true l0_0 l0_1 a0_2 l0_3) else (if (l0_1.length : Int) > 2048 then (wickerref02_Check.j0 k true l0_0 l0_1 a0_2 l0_3) else (wickerref02_Check.j0 k (decide ((l0_3.length : Int) > 8192)) l0_0 l0_1 a0_2 l0_3)))) = some r := h
 clear h
 have HC2 := Aside0.mk H
 clear H
 go_enter Tryd.func84, Tryd.ntmps84
 go_upto_region 1 with (first | ((with_reducible refine gate_dst (N := 1) rfl ?_); (try (refine gate_guard (by rfl) ?_; dsimp only)); refine box_event ?hg (N := 1) ?hd (cs := #[.slice A0_0 l0_0.length c0_0, .slice A0_1 l0_1.length c0_1, .int .i64 a0_2, .slice A0_3 l0_3.length c0_3]) (t := 63) ?hr ?_; (case hd => rfl); (case hg => rfl); (case hr => first | (go_simp; done) | (go_simp; rfl)); intro gb101 hg w3 hbox hb; have n0_ := Aside0.mk (below_step (by repeat (first | (with_reducible first | exact HB.out | apply below_alloc | apply pw_below_drewN | apply below_drew1) | exact HB.out)) hb); have n1_ := Aside0.mk (hbox); have n2_ := Aside0.mk ((by rw [hg]; exact (below_size (by repeat (first | (with_reducible first | exact HB.out | apply below_alloc | apply pw_below_drewN | apply below_drew1) | exact HB.out))) : w.heap.size ≤ gb101)); have n3_ := Aside0.mk ((by rw [hg]; exact (below_size (by repeat (first | (with_reducible first | exact HB.out | apply below_alloc | apply pw_below_drewN | apply below_drew1) | exact HB.out))) : w.heap.size ≤ gb101)); clear HB; have HB := n0_; have BK101 := n1_; have GW101 := n2_; have GE101 := n3_; clear n0_ n1_ n2_ n3_; clear hb hbox hg))
 (try simp only [Act.put, List.setIfInBounds_toArray, List.set_cons_zero, List.set_cons_succ])
 go_cut [30] (fun v30 wc => ∃ (kq : Nat) (x30_1 : Bool), v30 = .bool x30_1 ∧ Aside0 (wickerref02_Check.j0 kq x30_1 l0_0 l0_1 a0_2 l0_3 = some r) ∧ Aside0 (kq ≤ k) ∧ Aside0 (wc.heap[gb101]? = some (.cells #[(.slice A0_0 l0_0.length c0_0), (.slice A0_1 l0_1.length c0_1), .int .i64 a0_2, (.slice A0_3 l0_3.length c0_3)] 63 (0, 0))) ∧ Aside0 (Below w.heap.size w wc))
 case first =>
  have H := HC2.out
  clear HC2
  by_cases c4 : (l0_0.length : Int) < 1
  ·rw [if_pos c4] at H
   have c4b0 : decide ((l0_0.length : Int) < 1) = true := decide_eq_true c4
   have c4b1 : decide (l0_0.length < 1) = true := decide_eq_true (by omega)
   clear c4
   (first | rw [c4b0] | (simp only [i64_w, i32_w]; rw [c4b0]) | skip)
   have H' := Aside0.mk H
   clear H
   have hcz5_0 : w3.cell? ⟨gb101, 0, none⟩ = some (.slice A0_0 l0_0.length c0_0) := (blk_cell BK101.out 0).trans rfl
   have hcz5_1 : w3.cell? ⟨gb101, 1, none⟩ = some (.slice A0_1 l0_1.length c0_1) := (blk_cell BK101.out 1).trans rfl
   have hcz5_2 : w3.cell? ⟨gb101, 2, none⟩ = some (.int .i64 a0_2) := (blk_cell BK101.out 2).trans rfl
   have hcz5_3 : w3.cell? ⟨gb101, 3, none⟩ = some (.slice A0_3 l0_3.length c0_3) := (blk_cell BK101.out 3).trans rfl
   have hfz5_0 := blk_frozen BK101.out 0
   have hfz5_1 := blk_frozen BK101.out 1
   have hfz5_2 := blk_frozen BK101.out 2
   have hfz5_3 := blk_frozen BK101.out 3
   go_wp2
   go_meet
   case rel => exact ⟨_, (true), (by first | rfl | (simp; done) | (simp [*]; done)), H', ⟨by first | omega | exact Nat.le_refl _⟩, ⟨by (with_reducible repeat (first | refine blk_drewN ?_ _ | refine blk_drew ?_ | refine blk_alloc ?_ _)); exact BK101.out⟩, ⟨by repeat (first | (with_reducible first | exact HB.out | apply below_alloc | apply pw_below_drewN | apply below_drew1 | refine below_set ?_ GE101.out) | exact HB.out)⟩⟩
  ·rw [if_neg c4] at H
   have c4b0 : decide ((l0_0.length : Int) < 1) = false := decide_eq_false c4
   have c4b1 : decide (l0_0.length < 1) = false := decide_eq_false (by omega)
   clear c4
   (first | rw [c4b0] | (simp only [i64_w, i32_w]; rw [c4b0]) | skip)
   by_cases c6 : (l0_0.length : Int) > 2048
   ·rw [if_pos c6] at H
    have c6b0 : decide (2048 < (l0_0.length : Int)) = true := decide_eq_true c6
    have c6b1 : decide (2048 < l0_0.length) = true := decide_eq_true (by omega)
    clear c6
    have H' := Aside0.mk H
    clear H
    have hcz7_0 : w3.cell? ⟨gb101, 0, none⟩ = some (.slice A0_0 l0_0.length c0_0) := (blk_cell BK101.out 0).trans rfl
    have hcz7_1 : w3.cell? ⟨gb101, 1, none⟩ = some (.slice A0_1 l0_1.length c0_1) := (blk_cell BK101.out 1).trans rfl
    have hcz7_2 : w3.cell? ⟨gb101, 2, none⟩ = some (.int .i64 a0_2) := (blk_cell BK101.out 2).trans rfl
    have hcz7_3 : w3.cell? ⟨gb101, 3, none⟩ = some (.slice A0_3 l0_3.length c0_3) := (blk_cell BK101.out 3).trans rfl
    have hfz7_0 := blk_frozen BK101.out 0
    have hfz7_1 := blk_frozen BK101.out 1
    have hfz7_2 := blk_frozen BK101.out 2
    have hfz7_3 := blk_frozen BK101.out 3
    go_wp2
    go_meet
    case rel => exact ⟨_, (true), (by first | rfl | (simp; done) | (simp [*]; done)), H', ⟨by first | omega | exact Nat.le_refl _⟩, ⟨by (with_reducible repeat (first | refine blk_drewN ?_ _ | refine blk_drew ?_ | refine blk_alloc ?_ _)); exact BK101.out⟩, ⟨by repeat (first | (with_reducible first | exact HB.out | apply below_alloc | apply pw_below_drewN | apply below_drew1 | refine below_set ?_ GE101.out) | exact HB.out)⟩⟩
   ·rw [if_neg c6] at H
    have c6b0 : decide (2048 < (l0_0.length : Int)) = false := decide_eq_false c6
    have c6b1 : decide (2048 < l0_0.length) = false := decide_eq_false (by omega)
    clear c6
    by_cases c8 : (l0_1.length : Int) > 2048
    ·rw [if_pos c8] at H
     have c8b0 : decide (2048 < (l0_1.length : Int)) = true := decide_eq_true c8
     have c8b1 : decide (2048 < l0_1.length) = true := decide_eq_true (by omega)
     clear c8
     have H' := Aside0.mk H
     clear H
     have hcz9_0 : w3.cell? ⟨gb101, 0, none⟩ = some (.slice A0_0 l0_0.length c0_0) := (blk_cell BK101.out 0).trans rfl
     have hcz9_1 : w3.cell? ⟨gb101, 1, none⟩ = some (.slice A0_1 l0_1.length c0_1) := (blk_cell BK101.out 1).trans rfl
     have hcz9_2 : w3.cell? ⟨gb101, 2, none⟩ = some (.int .i64 a0_2) := (blk_cell BK101.out 2).trans rfl
     have hcz9_3 : w3.cell? ⟨gb101, 3, none⟩ = some (.slice A0_3 l0_3.length c0_3) := (blk_cell BK101.out 3).trans rfl
     have hfz9_0 := blk_frozen BK101.out 0
     have hfz9_1 := blk_frozen BK101.out 1
     have hfz9_2 := blk_frozen BK101.out 2
     have hfz9_3 := blk_frozen BK101.out 3
     go_wp2
     go_meet
     case rel => exact ⟨_, (true), (by first | rfl | (simp; done) | (simp [*]; done)), H', ⟨by first | omega | exact Nat.le_refl _⟩, ⟨by (with_reducible repeat (first | refine blk_drewN ?_ _ | refine blk_drew ?_ | refine blk_alloc ?_ _)); exact BK101.out⟩, ⟨by repeat (first | (with_reducible first | exact HB.out | apply below_alloc | apply pw_below_drewN | apply below_drew1 | refine below_set ?_ GE101.out) | exact HB.out)⟩⟩
    ·rw [if_neg c8] at H
     have c8b0 : decide (2048 < (l0_1.length : Int)) = false := decide_eq_false c8
     have c8b1 : decide (2048 < l0_1.length) = false := decide_eq_false (by omega)
     clear c8
     have H' := Aside0.mk H
     clear H
     have hcz10_0 : w3.cell? ⟨gb101, 0, none⟩ = some (.slice A0_0 l0_0.length c0_0) := (blk_cell BK101.out 0).trans rfl
     have hcz10_1 : w3.cell? ⟨gb101, 1, none⟩ = some (.slice A0_1 l0_1.length c0_1) := (blk_cell BK101.out 1).trans rfl
     have hcz10_2 : w3.cell? ⟨gb101, 2, none⟩ = some (.int .i64 a0_2) := (blk_cell BK101.out 2).trans rfl
     have hcz10_3 : w3.cell? ⟨gb101, 3, none⟩ = some (.slice A0_3 l0_3.length c0_3) := (blk_cell BK101.out 3).trans rfl
     have hfz10_0 := blk_frozen BK101.out 0
     have hfz10_1 := blk_frozen BK101.out 1
     have hfz10_2 := blk_frozen BK101.out 2
     have hfz10_3 := blk_frozen BK101.out 3
     go_wp2
     go_meet
     case rel => exact ⟨_, (decide ((l0_3.length : Int) > 8192)), (by first | rfl | (simp; done) | (simp [*]; done)), H', ⟨by first | omega | exact Nat.le_refl _⟩, ⟨by (with_reducible repeat (first | refine blk_drewN ?_ _ | refine blk_drew ?_ | refine blk_alloc ?_ _)); exact BK101.out⟩, ⟨by repeat (first | (with_reducible first | exact HB.out | apply below_alloc | apply pw_below_drewN | apply below_drew1 | refine below_set ?_ GE101.out) | exact HB.out)⟩⟩
 case rest =>
  clear HC2
  try clear p2
  try clear c4
  try clear c4b0
  try clear c4b1
  try clear c6
  try clear c6b0
  try clear c6b1
  try clear c8
  try clear c8b0
  try clear c8b1
  try clear hcz10_0
  try clear hcz10_1
  try clear hcz10_2
  try clear hcz10_3
  try clear hcz5_0
  try clear hcz5_1
  try clear hcz5_2
  try clear hcz5_3
  try clear hcz7_0
  try clear hcz7_1
  try clear hcz7_2
  try clear hcz7_3
  try clear hcz9_0
  try clear hcz9_1
  try clear hcz9_2
  try clear hcz9_3
  try clear hfz10_0
  try clear hfz10_1
  try clear hfz10_2
  try clear hfz10_3
  try clear hfz5_0
  try clear hfz5_1
  try clear hfz5_2
  try clear hfz5_3
  try clear hfz7_0
  try clear hfz7_1
  try clear hfz7_2
  try clear hfz7_3
  try clear hfz9_0
  try clear hfz9_1
  try clear hfz9_2
  try clear hfz9_3
  obtain ⟨kq, x30_1, rfl, HA, HJ1, BK101, HB⟩ := hcut
  cases kq with
  | zero => exact absurd HA.out (by simp [wickerref02_Check.j0])
  | succ kj1 =>
   have H := HA.out
   clear HA
   simp only [wickerref02_Check.j0] at H
   by_cases c11 : x30_1 = true
   ·subst c11
    have H1 : (some 11) = some r := by rw [if_pos rfl] at H; exact H
    clear H
    have H := H1
    clear H1
    obtain rfl := Option.some.inj H
    go_wp2
    go_ret
    exact ⟨by first | rfl | (simp [errW_none, errW_some] <;> rfl) | (simp [*, errW_none, errW_some] <;> rfl), by repeat (first | (with_reducible first | exact HB.out | apply below_alloc | apply pw_below_drewN | apply below_drew1 | refine below_set ?_ GE101.out) | exact HB.out)⟩
   ·replace c11 := Bool.eq_false_iff.mpr c11
    subst c11
    have H1 : (wickerref02_Check.l0 kj1 0 l0_0 l0_1 a0_2 l0_3) = some r := by rw [if_neg (show ¬ (false = true) by decide)] at H; exact H
    clear H
    have H := H1
    clear H1
    have H' := Aside0.mk H
    clear H
    go_wp2
    go_loopg [3] kj1 (fun kq v3 w' => ∃ (x3_2 : Int), v3 = .int .i64 x3_2 ∧ Aside0 (wickerref02_Check.l0 kq x3_2 l0_0 l0_1 a0_2 l0_3 = some r) ∧ Aside0 (kq ≤ kj1) ∧ Aside0 (w'.heap[gb101]? = some (.cells #[(.slice A0_0 l0_0.length c0_0), (.slice A0_1 l0_1.length c0_1), .int .i64 a0_2, (.slice A0_3 l0_3.length c0_3)] 63 (0, 0))) ∧ Aside0 (Below w.heap.size w w'))
    case atStart => exact ⟨(0), (by first | rfl | (simp; done) | (simp [*]; done)), H', ⟨Nat.le_refl _⟩, ⟨by (with_reducible repeat (first | refine blk_drewN ?_ _ | refine blk_drew ?_ | refine blk_alloc ?_ _)); exact BK101.out⟩, ⟨by repeat (first | (with_reducible first | exact HB.out | apply below_alloc | apply pw_below_drewN | apply below_drew1 | refine below_set ?_ GE101.out) | exact HB.out)⟩⟩
    case round =>
     clear H'
     try clear c1
     try clear p2
     try clear c4
     try clear c4b0
     try clear c4b1
     try clear c6
     try clear c6b0
     try clear c6b1
     try clear c8
     try clear c8b0
     try clear c8b1
     try clear c11
     try clear hcz10_0
     try clear hcz10_1
     try clear hcz10_2
     try clear hcz10_3
     try clear hcz5_0
     try clear hcz5_1
     try clear hcz5_2
     try clear hcz5_3
     try clear hcz7_0
     try clear hcz7_1
     try clear hcz7_2
     try clear hcz7_3
     try clear hcz9_0
     try clear hcz9_1
     try clear hcz9_2
     try clear hcz9_3
     try clear hfz10_0
     try clear hfz10_1
     try clear hfz10_2
     try clear hfz10_3
     try clear hfz5_0
     try clear hfz5_1
     try clear hfz5_2
     try clear hfz5_3
     try clear hfz7_0
     try clear hfz7_1
     try clear hfz7_2
     try clear hfz7_3
     try clear hfz9_0
     try clear hfz9_1
     try clear hfz9_2
     try clear hfz9_3
     try clear p2
     obtain ⟨x3_2, rfl, HA, HK2, BK101, HB⟩ := hrel
     cases gk with
     | zero => exact absurd HA.out (by simp [wickerref02_Check.l0])
     | succ k2 =>
      have H := HA.out
      clear HA
      simp only [wickerref02_Check.l0] at H
      by_cases c12 : x3_2 < (l0_0.length : Int)
      ·rw [if_pos c12] at H
       have c12b0 : decide (x3_2 < (l0_0.length : Int)) = true := decide_eq_true c12
       clear c12
       by_cases c13 : 0 ≤ x3_2
       ·rw [if_pos c13] at H
        have c13b0 : decide (0 ≤ x3_2) = true := decide_eq_true c13
        clear c13
        replace H := Option.bind_eq_some_iff.mp H
        obtain ⟨t103, A140, H⟩ := H
        replace H : (if t103 = true then (wickerref02_Check.l0 k2 (wrap64 (x3_2 + 1)) l0_0 l0_1 a0_2 l0_3) else (some 1)) = some r := H
        have A14 := Aside0.mk A140
        clear A140
        by_cases c15 : t103 = true
        ·subst c15
         have H1 : (wickerref02_Check.l0 k2 (wrap64 (x3_2 + 1)) l0_0 l0_1 a0_2 l0_3) = some r := by rw [if_pos rfl] at H; exact H
         clear H
         have H := H1
         clear H1
         have H' := Aside0.mk H
         clear H
         have hcz16_0 : wr.cell? ⟨gb101, 0, none⟩ = some (.slice A0_0 l0_0.length c0_0) := (blk_cell BK101.out 0).trans rfl
         have hcz16_1 : wr.cell? ⟨gb101, 1, none⟩ = some (.slice A0_1 l0_1.length c0_1) := (blk_cell BK101.out 1).trans rfl
         have hcz16_2 : wr.cell? ⟨gb101, 2, none⟩ = some (.int .i64 a0_2) := (blk_cell BK101.out 2).trans rfl
         have hcz16_3 : wr.cell? ⟨gb101, 3, none⟩ = some (.slice A0_3 l0_3.length c0_3) := (blk_cell BK101.out 3).trans rfl
         have hfz16_0 := blk_frozen BK101.out 0
         have hfz16_1 := blk_frozen BK101.out 1
         have hfz16_2 := blk_frozen BK101.out 2
         have hfz16_3 := blk_frozen BK101.out 3
         have p102 : 0 ≤ (x3_2 : Int) := of_decide_eq_true (by first | (with_reducible assumption) | assumption)
         have q102 : x3_2 < (l0_0.length : Int) := of_decide_eq_true (by first | (with_reducible assumption) | assumption)
         obtain ⟨ad102, e102, hx102_0⟩ := Kd.at_string HR0_0.out x3_2 p102 q102
         cases e102
         replace hx102_0 := (HB.out.cell (World.block_lt_of_cell? w _ hx102_0)).trans hx102_0
         replace p102 := eq_true p102
         replace q102 := eq_true q102
         go_wp2_with (first | ((with_reducible refine gate_callee (f := 133) rfl ?_); refine goesL_ (some 43) rfl rfl Tryd.func133 (by kernel_rfl) rfl #[.string (rdOf ByteArray.empty l0_0 x3_2)] rfl (by (try simp only [List.map_toArray, List.map_cons, List.map_nil]); first | done | rfl | (simp only [List.length_drop, List.length_take]; rfl)) ?_; (with_reducible refine (wickerref01_Name.calls k2 (rdOf ByteArray.empty l0_0 x3_2) true _ A14.out).mono ?_); rintro e w' ⟨rfl, ⟨nd, rfl⟩⟩; refine ⟨_, rfl, ?_⟩))
         go_roundg k2
         case measure => have := HJ1.out; have := HK2.out; omega
         case rel => exact ⟨(wrap64 (x3_2 + 1)), (by first | rfl | (simp; done) | (simp [*]; done)), H', ⟨by have := HJ1.out; have := HK2.out; omega⟩, ⟨by (with_reducible repeat (first | refine blk_drewN ?_ _ | refine blk_drew ?_ | refine blk_alloc ?_ _)); exact BK101.out⟩, ⟨by repeat (first | (with_reducible first | exact HB.out | apply below_alloc | apply pw_below_drewN | apply below_drew1 | refine below_set ?_ GE101.out) | exact HB.out)⟩⟩
        ·replace c15 := Bool.eq_false_iff.mpr c15
         subst c15
         have H1 : (some 1) = some r := by rw [if_neg (show ¬ (false = true) by decide)] at H; exact H
         clear H
         have H := H1
         clear H1
         obtain rfl := Option.some.inj H
         have hcz17_0 : wr.cell? ⟨gb101, 0, none⟩ = some (.slice A0_0 l0_0.length c0_0) := (blk_cell BK101.out 0).trans rfl
         have hcz17_1 : wr.cell? ⟨gb101, 1, none⟩ = some (.slice A0_1 l0_1.length c0_1) := (blk_cell BK101.out 1).trans rfl
         have hcz17_2 : wr.cell? ⟨gb101, 2, none⟩ = some (.int .i64 a0_2) := (blk_cell BK101.out 2).trans rfl
         have hcz17_3 : wr.cell? ⟨gb101, 3, none⟩ = some (.slice A0_3 l0_3.length c0_3) := (blk_cell BK101.out 3).trans rfl
         have hfz17_0 := blk_frozen BK101.out 0
         have hfz17_1 := blk_frozen BK101.out 1
         have hfz17_2 := blk_frozen BK101.out 2
         have hfz17_3 := blk_frozen BK101.out 3
         have p102 : 0 ≤ (x3_2 : Int) := of_decide_eq_true (by first | (with_reducible assumption) | assumption)
         have q102 : x3_2 < (l0_0.length : Int) := of_decide_eq_true (by first | (with_reducible assumption) | assumption)
         obtain ⟨ad102, e102, hx102_0⟩ := Kd.at_string HR0_0.out x3_2 p102 q102
         cases e102
         replace hx102_0 := (HB.out.cell (World.block_lt_of_cell? w _ hx102_0)).trans hx102_0
         replace p102 := eq_true p102
         replace q102 := eq_true q102
         go_wp2_with (first | ((with_reducible refine gate_callee (f := 133) rfl ?_); refine goesL_ (some 43) rfl rfl Tryd.func133 (by kernel_rfl) rfl #[.string (rdOf ByteArray.empty l0_0 x3_2)] rfl (by (try simp only [List.map_toArray, List.map_cons, List.map_nil]); first | done | rfl | (simp only [List.length_drop, List.length_take]; rfl)) ?_; (with_reducible refine (wickerref01_Name.calls k2 (rdOf ByteArray.empty l0_0 x3_2) false _ A14.out).mono ?_); rintro e w' ⟨rfl, ⟨nd, rfl⟩⟩; refine ⟨_, rfl, ?_⟩))
         go_ret
         exact ⟨by first | rfl | (simp [errW_none, errW_some] <;> rfl) | (simp [*, errW_none, errW_some] <;> rfl), by repeat (first | (with_reducible first | exact HB.out | apply below_alloc | apply pw_below_drewN | apply below_drew1 | refine below_set ?_ GE101.out) | exact HB.out)⟩
       ·rw [if_neg c13] at H
        exact absurd H (by simp)
      ·rw [if_neg c12] at H
       have c12b0 : decide (x3_2 < (l0_0.length : Int)) = false := decide_eq_false c12
       clear c12
       have H' := Aside0.mk H
       clear H
       have hcz18_0 : wr.cell? ⟨gb101, 0, none⟩ = some (.slice A0_0 l0_0.length c0_0) := (blk_cell BK101.out 0).trans rfl
       have hcz18_1 : wr.cell? ⟨gb101, 1, none⟩ = some (.slice A0_1 l0_1.length c0_1) := (blk_cell BK101.out 1).trans rfl
       have hcz18_2 : wr.cell? ⟨gb101, 2, none⟩ = some (.int .i64 a0_2) := (blk_cell BK101.out 2).trans rfl
       have hcz18_3 : wr.cell? ⟨gb101, 3, none⟩ = some (.slice A0_3 l0_3.length c0_3) := (blk_cell BK101.out 3).trans rfl
       have hfz18_0 := blk_frozen BK101.out 0
       have hfz18_1 := blk_frozen BK101.out 1
       have hfz18_2 := blk_frozen BK101.out 2
       have hfz18_3 := blk_frozen BK101.out 3
       go_wp2
       go_loopg [4] k2 (fun kq v4 w' => ∃ (x4_3 : Int), v4 = .int .i64 x4_3 ∧ Aside0 (wickerref02_Check.l1 kq x4_3 l0_0 l0_1 a0_2 l0_3 = some r) ∧ Aside0 (kq ≤ k2) ∧ Aside0 (w'.heap[gb101]? = some (.cells #[(.slice A0_0 l0_0.length c0_0), (.slice A0_1 l0_1.length c0_1), .int .i64 a0_2, (.slice A0_3 l0_3.length c0_3)] 63 (0, 0))) ∧ Aside0 (Below w.heap.size w w'))
       case atStart => exact ⟨(0), (by first | rfl | (simp; done) | (simp [*]; done)), H', ⟨Nat.le_refl _⟩, ⟨by (with_reducible repeat (first | refine blk_drewN ?_ _ | refine blk_drew ?_ | refine blk_alloc ?_ _)); exact BK101.out⟩, ⟨by repeat (first | (with_reducible first | exact HB.out | apply below_alloc | apply pw_below_drewN | apply below_drew1 | refine below_set ?_ GE101.out) | exact HB.out)⟩⟩
       case round =>
        clear H'
        try clear c1
        try clear p1
        try clear q1
        try clear hx1
        try clear p2
        try clear c4
        try clear c4b0
        try clear c4b1
        try clear c6
        try clear c6b0
        try clear c6b1
        try clear p6
        try clear c8
        try clear c8b0
        try clear c8b1
        try clear p10
        try clear q10
        try clear hx10
        try clear c11
        try clear c12
        try clear c12b0
        try clear c13
        try clear c13b0
        try clear c15
        try clear hcz10_0
        try clear hcz10_1
        try clear hcz10_2
        try clear hcz10_3
        try clear hcz16_0
        try clear hcz16_1
        try clear hcz16_2
        try clear hcz16_3
        try clear hcz17_0
        try clear hcz17_1
        try clear hcz17_2
        try clear hcz17_3
        try clear hcz18_0
        try clear hcz18_1
        try clear hcz18_2
        try clear hcz18_3
        try clear hcz5_0
        try clear hcz5_1
        try clear hcz5_2
        try clear hcz5_3
        try clear hcz7_0
        try clear hcz7_1
        try clear hcz7_2
        try clear hcz7_3
        try clear hcz9_0
        try clear hcz9_1
        try clear hcz9_2
        try clear hcz9_3
        try clear hfz10_0
        try clear hfz10_1
        try clear hfz10_2
        try clear hfz10_3
        try clear hfz16_0
        try clear hfz16_1
        try clear hfz16_2
        try clear hfz16_3
        try clear hfz17_0
        try clear hfz17_1
        try clear hfz17_2
        try clear hfz17_3
        try clear hfz18_0
        try clear hfz18_1
        try clear hfz18_2
        try clear hfz18_3
        try clear hfz5_0
        try clear hfz5_1
        try clear hfz5_2
        try clear hfz5_3
        try clear hfz7_0
        try clear hfz7_1
        try clear hfz7_2
        try clear hfz7_3
        try clear hfz9_0
        try clear hfz9_1
        try clear hfz9_2
        try clear hfz9_3
        try clear hx102_0
        try clear p102
        try clear p2
        try clear q102
        obtain ⟨x4_3, rfl, HA, HK3, BK101, HB⟩ := hrel
        cases gk with
        | zero => exact absurd HA.out (by simp [wickerref02_Check.l1])
        | succ k3 =>
         have H := HA.out
         clear HA
         simp only [wickerref02_Check.l1] at H
         by_cases c19 : x4_3 < (l0_1.length : Int)
         ·rw [if_pos c19] at H
          have c19b0 : decide (x4_3 < (l0_1.length : Int)) = true := decide_eq_true c19
          clear c19
          by_cases c20 : 0 ≤ x4_3
          ·rw [if_pos c20] at H
           have c20b0 : decide (0 ≤ x4_3) = true := decide_eq_true c20
           clear c20
           replace H := Option.bind_eq_some_iff.mp H
           obtain ⟨t105, A210, H⟩ := H
           replace H : (if t105 = true then (wickerref02_Check.l1 k3 (wrap64 (x4_3 + 1)) l0_0 l0_1 a0_2 l0_3) else (some 1)) = some r := H
           have A21 := Aside0.mk A210
           clear A210
           by_cases c22 : t105 = true
           ·subst c22
            have H1 : (wickerref02_Check.l1 k3 (wrap64 (x4_3 + 1)) l0_0 l0_1 a0_2 l0_3) = some r := by rw [if_pos rfl] at H; exact H
            clear H
            have H := H1
            clear H1
            have H' := Aside0.mk H
            clear H
            have hcz23_0 : wr.cell? ⟨gb101, 0, none⟩ = some (.slice A0_0 l0_0.length c0_0) := (blk_cell BK101.out 0).trans rfl
            have hcz23_1 : wr.cell? ⟨gb101, 1, none⟩ = some (.slice A0_1 l0_1.length c0_1) := (blk_cell BK101.out 1).trans rfl
            have hcz23_2 : wr.cell? ⟨gb101, 2, none⟩ = some (.int .i64 a0_2) := (blk_cell BK101.out 2).trans rfl
            have hcz23_3 : wr.cell? ⟨gb101, 3, none⟩ = some (.slice A0_3 l0_3.length c0_3) := (blk_cell BK101.out 3).trans rfl
            have hfz23_0 := blk_frozen BK101.out 0
            have hfz23_1 := blk_frozen BK101.out 1
            have hfz23_2 := blk_frozen BK101.out 2
            have hfz23_3 := blk_frozen BK101.out 3
            have p104 : 0 ≤ (x4_3 : Int) := of_decide_eq_true (by first | (with_reducible assumption) | assumption)
            have q104 : x4_3 < (l0_1.length : Int) := of_decide_eq_true (by first | (with_reducible assumption) | assumption)
            obtain ⟨ad104, e104, hx104_0⟩ := Kd.at_string HR0_1.out x4_3 p104 q104
            cases e104
            replace hx104_0 := (HB.out.cell (World.block_lt_of_cell? w _ hx104_0)).trans hx104_0
            replace p104 := eq_true p104
            replace q104 := eq_true q104
            go_wp2_with (first | ((with_reducible refine gate_callee (f := 134) rfl ?_); refine goesL_ (some 57) rfl rfl Tryd.func134 (by kernel_rfl) rfl #[.string (rdOf ByteArray.empty l0_1 x4_3)] rfl (by (try simp only [List.map_toArray, List.map_cons, List.map_nil]); first | done | rfl | (simp only [List.length_drop, List.length_take]; rfl)) ?_; (with_reducible refine (wickerref01_Mark.calls (rdOf ByteArray.empty l0_1 x4_3) true _ A21.out).mono ?_); rintro e w' ⟨rfl, ⟨nd, rfl⟩⟩; refine ⟨_, rfl, ?_⟩))
            go_roundg k3
            case measure => have := HJ1.out; have := HK2.out; have := HK3.out; omega
            case rel => exact ⟨(wrap64 (x4_3 + 1)), (by first | rfl | (simp; done) | (simp [*]; done)), H', ⟨by have := HJ1.out; have := HK2.out; have := HK3.out; omega⟩, ⟨by (with_reducible repeat (first | refine blk_drewN ?_ _ | refine blk_drew ?_ | refine blk_alloc ?_ _)); exact BK101.out⟩, ⟨by repeat (first | (with_reducible first | exact HB.out | apply below_alloc | apply pw_below_drewN | apply below_drew1 | refine below_set ?_ GE101.out) | exact HB.out)⟩⟩
           ·replace c22 := Bool.eq_false_iff.mpr c22
            subst c22
            have H1 : (some 1) = some r := by rw [if_neg (show ¬ (false = true) by decide)] at H; exact H
            clear H
            have H := H1
            clear H1
            obtain rfl := Option.some.inj H
            have hcz24_0 : wr.cell? ⟨gb101, 0, none⟩ = some (.slice A0_0 l0_0.length c0_0) := (blk_cell BK101.out 0).trans rfl
            have hcz24_1 : wr.cell? ⟨gb101, 1, none⟩ = some (.slice A0_1 l0_1.length c0_1) := (blk_cell BK101.out 1).trans rfl
            have hcz24_2 : wr.cell? ⟨gb101, 2, none⟩ = some (.int .i64 a0_2) := (blk_cell BK101.out 2).trans rfl
            have hcz24_3 : wr.cell? ⟨gb101, 3, none⟩ = some (.slice A0_3 l0_3.length c0_3) := (blk_cell BK101.out 3).trans rfl
            have hfz24_0 := blk_frozen BK101.out 0
            have hfz24_1 := blk_frozen BK101.out 1
            have hfz24_2 := blk_frozen BK101.out 2
            have hfz24_3 := blk_frozen BK101.out 3
            have p104 : 0 ≤ (x4_3 : Int) := of_decide_eq_true (by first | (with_reducible assumption) | assumption)
            have q104 : x4_3 < (l0_1.length : Int) := of_decide_eq_true (by first | (with_reducible assumption) | assumption)
            obtain ⟨ad104, e104, hx104_0⟩ := Kd.at_string HR0_1.out x4_3 p104 q104
            cases e104
            replace hx104_0 := (HB.out.cell (World.block_lt_of_cell? w _ hx104_0)).trans hx104_0
            replace p104 := eq_true p104
            replace q104 := eq_true q104
            go_wp2_with (first | ((with_reducible refine gate_callee (f := 134) rfl ?_); refine goesL_ (some 57) rfl rfl Tryd.func134 (by kernel_rfl) rfl #[.string (rdOf ByteArray.empty l0_1 x4_3)] rfl (by (try simp only [List.map_toArray, List.map_cons, List.map_nil]); first | done | rfl | (simp only [List.length_drop, List.length_take]; rfl)) ?_; (with_reducible refine (wickerref01_Mark.calls (rdOf ByteArray.empty l0_1 x4_3) false _ A21.out).mono ?_); rintro e w' ⟨rfl, ⟨nd, rfl⟩⟩; refine ⟨_, rfl, ?_⟩))
            go_ret
            exact ⟨by first | rfl | (simp [errW_none, errW_some] <;> rfl) | (simp [*, errW_none, errW_some] <;> rfl), by repeat (first | (with_reducible first | exact HB.out | apply below_alloc | apply pw_below_drewN | apply below_drew1 | refine below_set ?_ GE101.out) | exact HB.out)⟩
          ·rw [if_neg c20] at H
           exact absurd H (by simp)
         ·rw [if_neg c19] at H
          have c19b0 : decide (x4_3 < (l0_1.length : Int)) = false := decide_eq_false c19
          clear c19
          have HC25 := Aside0.mk H
          clear H
          have hcz26_0 : wr.cell? ⟨gb101, 0, none⟩ = some (.slice A0_0 l0_0.length c0_0) := (blk_cell BK101.out 0).trans rfl
          have hcz26_1 : wr.cell? ⟨gb101, 1, none⟩ = some (.slice A0_1 l0_1.length c0_1) := (blk_cell BK101.out 1).trans rfl
          have hcz26_2 : wr.cell? ⟨gb101, 2, none⟩ = some (.int .i64 a0_2) := (blk_cell BK101.out 2).trans rfl
          have hcz26_3 : wr.cell? ⟨gb101, 3, none⟩ = some (.slice A0_3 l0_3.length c0_3) := (blk_cell BK101.out 3).trans rfl
          have hfz26_0 := blk_frozen BK101.out 0
          have hfz26_1 := blk_frozen BK101.out 1
          have hfz26_2 := blk_frozen BK101.out 2
          have hfz26_3 := blk_frozen BK101.out 3
          go_upto_region 13 with (fail)
          go_cut [66] (fun v66 wc => ∃ (kq : Nat) (x66_24 : Bool), v66 = .bool x66_24 ∧ Aside0 (wickerref02_Check.j3 kq x66_24 l0_0 l0_1 a0_2 l0_3 = some r) ∧ Aside0 (kq ≤ k3) ∧ Aside0 (wc.heap[gb101]? = some (.cells #[(.slice A0_0 l0_0.length c0_0), (.slice A0_1 l0_1.length c0_1), .int .i64 a0_2, (.slice A0_3 l0_3.length c0_3)] 63 (0, 0))) ∧ Aside0 (Below w.heap.size w wc))
          case first =>
           have H := HC25.out
           clear HC25
           replace H := Option.bind_eq_some_iff.mp H
           obtain ⟨t106, A270, H⟩ := H
           replace H : (if t106 = true then (wickerref02_Check.j3 k3 true l0_0 l0_1 a0_2 l0_3) else ((wickerref02_twice.f k3 l0_1).bind fun t107 => (wickerref02_Check.j3 k3 t107 l0_0 l0_1 a0_2 l0_3))) = some r := H
           have A27 := Aside0.mk A270
           clear A270
           by_cases c28 : t106 = true
           ·subst c28
            have H1 : (wickerref02_Check.j3 k3 true l0_0 l0_1 a0_2 l0_3) = some r := by rw [if_pos rfl] at H; exact H
            clear H
            have H := H1
            clear H1
            have H' := Aside0.mk H
            clear H
            have hcz29_0 : wr.cell? ⟨gb101, 0, none⟩ = some (.slice A0_0 l0_0.length c0_0) := (blk_cell BK101.out 0).trans rfl
            have hcz29_1 : wr.cell? ⟨gb101, 1, none⟩ = some (.slice A0_1 l0_1.length c0_1) := (blk_cell BK101.out 1).trans rfl
            have hcz29_2 : wr.cell? ⟨gb101, 2, none⟩ = some (.int .i64 a0_2) := (blk_cell BK101.out 2).trans rfl
            have hcz29_3 : wr.cell? ⟨gb101, 3, none⟩ = some (.slice A0_3 l0_3.length c0_3) := (blk_cell BK101.out 3).trans rfl
            have hfz29_0 := blk_frozen BK101.out 0
            have hfz29_1 := blk_frozen BK101.out 1
            have hfz29_2 := blk_frozen BK101.out 2
            have hfz29_3 := blk_frozen BK101.out 3
            go_wp2_with (first | ((with_reducible refine gate_callee (f := 135) rfl ?_); refine goesL_ (some 61) rfl rfl Tryd.func135 (by kernel_rfl) rfl #[.slice A0_0 l0_0.length c0_0] rfl (by (try simp only [List.map_toArray, List.map_cons, List.map_nil]); first | done | rfl | (simp only [List.length_drop, List.length_take]; rfl)) ?_; (with_reducible refine (wickerref02_twice.calls k3 _ _ l0_0 true _ ?side1 ?side2 A27.out).mono ?_); (case side1 => repeat (first | exact (Kd.C_below HR0_0.out HB.out) | (with_reducible refine Kd.C_alloc ?_ _) | (with_reducible refine Kd.C_drewN ?_ _) | (with_reducible refine Kd.C_drew ?_))); (case side2 => exact HC0_0.out); rintro e w' ⟨rfl, ⟨nd, rfl⟩⟩; refine ⟨_, rfl, ?_⟩))
            go_meet
            case rel => exact ⟨_, (true), (by first | rfl | (simp; done) | (simp [*]; done)), H', ⟨by have := HJ1.out; have := HK2.out; have := HK3.out; first | omega | exact Nat.le_refl _⟩, ⟨by (with_reducible repeat (first | refine blk_drewN ?_ _ | refine blk_drew ?_ | refine blk_alloc ?_ _)); exact BK101.out⟩, ⟨by repeat (first | (with_reducible first | exact HB.out | apply below_alloc | apply pw_below_drewN | apply below_drew1 | refine below_set ?_ GE101.out) | exact HB.out)⟩⟩
           ·replace c28 := Bool.eq_false_iff.mpr c28
            subst c28
            have H1 : ((wickerref02_twice.f k3 l0_1).bind fun t107 => (wickerref02_Check.j3 k3 t107 l0_0 l0_1 a0_2 l0_3)) = some r := by rw [if_neg (show ¬ (false = true) by decide)] at H; exact H
            clear H
            have H := H1
            clear H1
            replace H := Option.bind_eq_some_iff.mp H
            obtain ⟨t107, A300, H⟩ := H
            replace H : (wickerref02_Check.j3 k3 t107 l0_0 l0_1 a0_2 l0_3) = some r := H
            have A30 := Aside0.mk A300
            clear A300
            have H' := Aside0.mk H
            clear H
            have hcz31_0 : wr.cell? ⟨gb101, 0, none⟩ = some (.slice A0_0 l0_0.length c0_0) := (blk_cell BK101.out 0).trans rfl
            have hcz31_1 : wr.cell? ⟨gb101, 1, none⟩ = some (.slice A0_1 l0_1.length c0_1) := (blk_cell BK101.out 1).trans rfl
            have hcz31_2 : wr.cell? ⟨gb101, 2, none⟩ = some (.int .i64 a0_2) := (blk_cell BK101.out 2).trans rfl
            have hcz31_3 : wr.cell? ⟨gb101, 3, none⟩ = some (.slice A0_3 l0_3.length c0_3) := (blk_cell BK101.out 3).trans rfl
            have hfz31_0 := blk_frozen BK101.out 0
            have hfz31_1 := blk_frozen BK101.out 1
            have hfz31_2 := blk_frozen BK101.out 2
            have hfz31_3 := blk_frozen BK101.out 3
            go_wp2_with (first | ((with_reducible refine gate_callee (f := 135) rfl ?_); refine goesL_ (some 61) rfl rfl Tryd.func135 (by kernel_rfl) rfl #[.slice A0_0 l0_0.length c0_0] rfl (by (try simp only [List.map_toArray, List.map_cons, List.map_nil]); first | done | rfl | (simp only [List.length_drop, List.length_take]; rfl)) ?_; (with_reducible refine (wickerref02_twice.calls k3 _ _ l0_0 false _ ?side1 ?side2 A27.out).mono ?_); (case side1 => repeat (first | exact (Kd.C_below HR0_0.out HB.out) | (with_reducible refine Kd.C_alloc ?_ _) | (with_reducible refine Kd.C_drewN ?_ _) | (with_reducible refine Kd.C_drew ?_))); (case side2 => exact HC0_0.out); rintro e w' ⟨rfl, ⟨nd, rfl⟩⟩; refine ⟨_, rfl, ?_⟩) | (go_at_call 135; (with_reducible refine (wickerref02_twice.calls k3 _ _ l0_1 t107 _ ?side1 ?side2 A30.out).mono ?_); (case side1 => repeat (first | exact (Kd.C_below HR0_1.out (by repeat (first | (with_reducible first | exact HB.out | apply below_alloc | apply pw_below_drewN | apply below_drew1 | refine below_set ?_ GE101.out) | exact HB.out))) | (with_reducible refine Kd.C_alloc ?_ _) | (with_reducible refine Kd.C_drewN ?_ _) | (with_reducible refine Kd.C_drew ?_))); (case side2 => exact HC0_1.out); rintro e w' ⟨rfl, ⟨nd, rfl⟩⟩))
            go_meet
            case rel => exact ⟨_, (t107), (by first | rfl | (simp; done) | (simp [*]; done)), H', ⟨by have := HJ1.out; have := HK2.out; have := HK3.out; first | omega | exact Nat.le_refl _⟩, ⟨by (with_reducible repeat (first | refine blk_drewN ?_ _ | refine blk_drew ?_ | refine blk_alloc ?_ _)); exact BK101.out⟩, ⟨by repeat (first | (with_reducible first | exact HB.out | apply below_alloc | apply pw_below_drewN | apply below_drew1 | refine below_set ?_ GE101.out) | exact HB.out)⟩⟩
          case rest =>
           clear HC25
           try clear c1
           try clear p1
           try clear q1
           try clear hx1
           try clear c2
           try clear p2
           try clear c4
           try clear c4b0
           try clear c4b1
           try clear c6
           try clear c6b0
           try clear c6b1
           try clear p6
           try clear c8
           try clear c8b0
           try clear c8b1
           try clear p10
           try clear q10
           try clear hx10
           try clear c11
           try clear c12
           try clear c12b0
           try clear c13
           try clear c13b0
           try clear c15
           try clear c19
           try clear c19b0
           try clear c20
           try clear c20b0
           try clear c22
           try clear c28
           try clear hcz10_0
           try clear hcz10_1
           try clear hcz10_2
           try clear hcz10_3
           try clear hcz16_0
           try clear hcz16_1
           try clear hcz16_2
           try clear hcz16_3
           try clear hcz17_0
           try clear hcz17_1
           try clear hcz17_2
           try clear hcz17_3
           try clear hcz18_0
           try clear hcz18_1
           try clear hcz18_2
           try clear hcz18_3
           try clear hcz23_0
           try clear hcz23_1
           try clear hcz23_2
           try clear hcz23_3
           try clear hcz24_0
           try clear hcz24_1
           try clear hcz24_2
           try clear hcz24_3
           try clear hcz26_0
           try clear hcz26_1
           try clear hcz26_2
           try clear hcz26_3
           try clear hcz29_0
           try clear hcz29_1
           try clear hcz29_2
           try clear hcz29_3
           try clear hcz31_0
           try clear hcz31_1
           try clear hcz31_2
           try clear hcz31_3
           try clear hcz5_0
           try clear hcz5_1
           try clear hcz5_2
           try clear hcz5_3
           try clear hcz7_0
           try clear hcz7_1
           try clear hcz7_2
           try clear hcz7_3
           try clear hcz9_0
           try clear hcz9_1
           try clear hcz9_2
           try clear hcz9_3
           try clear hfz10_0
           try clear hfz10_1
           try clear hfz10_2
           try clear hfz10_3
           try clear hfz16_0
           try clear hfz16_1
           try clear hfz16_2
           try clear hfz16_3
           try clear hfz17_0
           try clear hfz17_1
           try clear hfz17_2
           try clear hfz17_3
           try clear hfz18_0
           try clear hfz18_1
           try clear hfz18_2
           try clear hfz18_3
           try clear hfz23_0
           try clear hfz23_1
           try clear hfz23_2
           try clear hfz23_3
           try clear hfz24_0
           try clear hfz24_1
           try clear hfz24_2
           try clear hfz24_3
           try clear hfz26_0
           try clear hfz26_1
           try clear hfz26_2
           try clear hfz26_3
           try clear hfz29_0
           try clear hfz29_1
           try clear hfz29_2
           try clear hfz29_3
           try clear hfz31_0
           try clear hfz31_1
           try clear hfz31_2
           try clear hfz31_3
           try clear hfz5_0
           try clear hfz5_1
           try clear hfz5_2
           try clear hfz5_3
           try clear hfz7_0
           try clear hfz7_1
           try clear hfz7_2
           try clear hfz7_3
           try clear hfz9_0
           try clear hfz9_1
           try clear hfz9_2
           try clear hfz9_3
           try clear hx102_0
           try clear hx104_0
           try clear p1
           try clear p10
           try clear p102
           try clear p104
           try clear p2
           try clear p6
           try clear q1
           try clear q10
           try clear q102
           try clear q104
           obtain ⟨kq, x66_24, rfl, HA, HJ24, BK101, HB⟩ := hcut
           cases kq with
           | zero => exact absurd HA.out (by simp [wickerref02_Check.j3])
           | succ kj24 =>
            have H := HA.out
            clear HA
            simp only [wickerref02_Check.j3] at H
            by_cases c32 : x66_24 = true
            ·subst c32
             have H1 : (some 2) = some r := by rw [if_pos rfl] at H; exact H
             clear H
             have H := H1
             clear H1
             obtain rfl := Option.some.inj H
             go_wp2
             go_ret
             exact ⟨by first | rfl | (simp [errW_none, errW_some] <;> rfl) | (simp [*, errW_none, errW_some] <;> rfl), by repeat (first | (with_reducible first | exact HB.out | apply below_alloc | apply pw_below_drewN | apply below_drew1 | refine below_set ?_ GE101.out) | exact HB.out)⟩
            ·replace c32 := Bool.eq_false_iff.mpr c32
             subst c32
             have H1 : (if a0_2 < 0 then (wickerref02_Check.j4 kj24 true l0_0 l0_1 a0_2 l0_3) else (wickerref02_Check.j4 kj24 (decide (a0_2 ≥ (l0_0.length : Int))) l0_0 l0_1 a0_2 l0_3)) = some r := by rw [if_neg (show ¬ (false = true) by decide)] at H; exact H
             clear H
             have H := H1
             clear H1
             have HC33 := Aside0.mk H
             clear H
             go_upto_region 15 with (fail)
             go_cut [77] (fun v77 wc => ∃ (kq : Nat) (x77_32 : Bool), v77 = .bool x77_32 ∧ Aside0 (wickerref02_Check.j4 kq x77_32 l0_0 l0_1 a0_2 l0_3 = some r) ∧ Aside0 (kq ≤ kj24) ∧ Aside0 (wc.heap[gb101]? = some (.cells #[(.slice A0_0 l0_0.length c0_0), (.slice A0_1 l0_1.length c0_1), .int .i64 a0_2, (.slice A0_3 l0_3.length c0_3)] 63 (0, 0))) ∧ Aside0 (Below w.heap.size w wc))
             case first =>
              have H := HC33.out
              clear HC33
              by_cases c34 : a0_2 < 0
              ·rw [if_pos c34] at H
               have c34b0 : decide (a0_2 < 0) = true := decide_eq_true c34
               clear c34
               (first | rw [c34b0] | (simp only [i64_w, i32_w]; rw [c34b0]) | skip)
               have H' := Aside0.mk H
               clear H
               have hcz35_0 : wc.cell? ⟨gb101, 0, none⟩ = some (.slice A0_0 l0_0.length c0_0) := (blk_cell BK101.out 0).trans rfl
               have hcz35_1 : wc.cell? ⟨gb101, 1, none⟩ = some (.slice A0_1 l0_1.length c0_1) := (blk_cell BK101.out 1).trans rfl
               have hcz35_2 : wc.cell? ⟨gb101, 2, none⟩ = some (.int .i64 a0_2) := (blk_cell BK101.out 2).trans rfl
               have hcz35_3 : wc.cell? ⟨gb101, 3, none⟩ = some (.slice A0_3 l0_3.length c0_3) := (blk_cell BK101.out 3).trans rfl
               have hfz35_0 := blk_frozen BK101.out 0
               have hfz35_1 := blk_frozen BK101.out 1
               have hfz35_2 := blk_frozen BK101.out 2
               have hfz35_3 := blk_frozen BK101.out 3
               go_wp2
               go_meet
               case rel => exact ⟨_, (true), (by first | rfl | (simp; done) | (simp [*]; done)), H', ⟨by have := HJ1.out; have := HK2.out; have := HK3.out; have := HJ24.out; first | omega | exact Nat.le_refl _⟩, ⟨by (with_reducible repeat (first | refine blk_drewN ?_ _ | refine blk_drew ?_ | refine blk_alloc ?_ _)); exact BK101.out⟩, ⟨by repeat (first | (with_reducible first | exact HB.out | apply below_alloc | apply pw_below_drewN | apply below_drew1 | refine below_set ?_ GE101.out) | exact HB.out)⟩⟩
              ·rw [if_neg c34] at H
               have c34b0 : decide (a0_2 < 0) = false := decide_eq_false c34
               clear c34
               (first | rw [c34b0] | (simp only [i64_w, i32_w]; rw [c34b0]) | skip)
               have H' := Aside0.mk H
               clear H
               have hcz36_0 : wc.cell? ⟨gb101, 0, none⟩ = some (.slice A0_0 l0_0.length c0_0) := (blk_cell BK101.out 0).trans rfl
               have hcz36_1 : wc.cell? ⟨gb101, 1, none⟩ = some (.slice A0_1 l0_1.length c0_1) := (blk_cell BK101.out 1).trans rfl
               have hcz36_2 : wc.cell? ⟨gb101, 2, none⟩ = some (.int .i64 a0_2) := (blk_cell BK101.out 2).trans rfl
               have hcz36_3 : wc.cell? ⟨gb101, 3, none⟩ = some (.slice A0_3 l0_3.length c0_3) := (blk_cell BK101.out 3).trans rfl
               have hfz36_0 := blk_frozen BK101.out 0
               have hfz36_1 := blk_frozen BK101.out 1
               have hfz36_2 := blk_frozen BK101.out 2
               have hfz36_3 := blk_frozen BK101.out 3
               go_wp2
               go_meet
               case rel => exact ⟨_, (decide (a0_2 ≥ (l0_0.length : Int))), (by first | rfl | (simp; done) | (simp [*]; done)), H', ⟨by have := HJ1.out; have := HK2.out; have := HK3.out; have := HJ24.out; first | omega | exact Nat.le_refl _⟩, ⟨by (with_reducible repeat (first | refine blk_drewN ?_ _ | refine blk_drew ?_ | refine blk_alloc ?_ _)); exact BK101.out⟩, ⟨by repeat (first | (with_reducible first | exact HB.out | apply below_alloc | apply pw_below_drewN | apply below_drew1 | refine below_set ?_ GE101.out) | exact HB.out)⟩⟩
             case rest =>
              clear HC33
              try clear c1
              try clear p1
              try clear q1
              try clear hx1
              try clear c2
              try clear p2
              try clear c3
              try clear c4
              try clear c4b0
              try clear c4b1
              try clear c6
              try clear c6b0
              try clear c6b1
              try clear p6
              try clear c8
              try clear c8b0
              try clear c8b1
              try clear p10
              try clear q10
              try clear hx10
              try clear c11
              try clear c12
              try clear c12b0
              try clear c13
              try clear c13b0
              try clear c15
              try clear c19
              try clear c19b0
              try clear c20
              try clear c20b0
              try clear c22
              try clear c28
              try clear c32
              try clear c34
              try clear c34b0
              try clear hcz10_0
              try clear hcz10_1
              try clear hcz10_2
              try clear hcz10_3
              try clear hcz16_0
              try clear hcz16_1
              try clear hcz16_2
              try clear hcz16_3
              try clear hcz17_0
              try clear hcz17_1
              try clear hcz17_2
              try clear hcz17_3
              try clear hcz18_0
              try clear hcz18_1
              try clear hcz18_2
              try clear hcz18_3
              try clear hcz23_0
              try clear hcz23_1
              try clear hcz23_2
              try clear hcz23_3
              try clear hcz24_0
              try clear hcz24_1
              try clear hcz24_2
              try clear hcz24_3
              try clear hcz26_0
              try clear hcz26_1
              try clear hcz26_2
              try clear hcz26_3
              try clear hcz29_0
              try clear hcz29_1
              try clear hcz29_2
              try clear hcz29_3
              try clear hcz31_0
              try clear hcz31_1
              try clear hcz31_2
              try clear hcz31_3
              try clear hcz35_0
              try clear hcz35_1
              try clear hcz35_2
              try clear hcz35_3
              try clear hcz36_0
              try clear hcz36_1
              try clear hcz36_2
              try clear hcz36_3
              try clear hcz5_0
              try clear hcz5_1
              try clear hcz5_2
              try clear hcz5_3
              try clear hcz7_0
              try clear hcz7_1
              try clear hcz7_2
              try clear hcz7_3
              try clear hcz9_0
              try clear hcz9_1
              try clear hcz9_2
              try clear hcz9_3
              try clear hfz10_0
              try clear hfz10_1
              try clear hfz10_2
              try clear hfz10_3
              try clear hfz16_0
              try clear hfz16_1
              try clear hfz16_2
              try clear hfz16_3
              try clear hfz17_0
              try clear hfz17_1
              try clear hfz17_2
              try clear hfz17_3
              try clear hfz18_0
              try clear hfz18_1
              try clear hfz18_2
              try clear hfz18_3
              try clear hfz23_0
              try clear hfz23_1
              try clear hfz23_2
              try clear hfz23_3
              try clear hfz24_0
              try clear hfz24_1
              try clear hfz24_2
              try clear hfz24_3
              try clear hfz26_0
              try clear hfz26_1
              try clear hfz26_2
              try clear hfz26_3
              try clear hfz29_0
              try clear hfz29_1
              try clear hfz29_2
              try clear hfz29_3
              try clear hfz31_0
              try clear hfz31_1
              try clear hfz31_2
              try clear hfz31_3
              try clear hfz35_0
              try clear hfz35_1
              try clear hfz35_2
              try clear hfz35_3
              try clear hfz36_0
              try clear hfz36_1
              try clear hfz36_2
              try clear hfz36_3
              try clear hfz5_0
              try clear hfz5_1
              try clear hfz5_2
              try clear hfz5_3
              try clear hfz7_0
              try clear hfz7_1
              try clear hfz7_2
              try clear hfz7_3
              try clear hfz9_0
              try clear hfz9_1
              try clear hfz9_2
              try clear hfz9_3
              try clear hx102_0
              try clear hx104_0
              try clear p1
              try clear p10
              try clear p102
              try clear p104
              try clear p2
              try clear p6
              try clear q1
              try clear q10
              try clear q102
              try clear q104
              obtain ⟨kq, x77_32, rfl, HA, HJ32, BK101, HB⟩ := hcut
              cases kq with
              | zero => exact absurd HA.out (by simp [wickerref02_Check.j4])
              | succ kj32 =>
               have H := HA.out
               clear HA
               simp only [wickerref02_Check.j4] at H
               by_cases c37 : x77_32 = true
               ·subst c37
                have H1 : (some 3) = some r := by rw [if_pos rfl] at H; exact H
                clear H
                have H := H1
                clear H1
                obtain rfl := Option.some.inj H
                go_wp2
                go_ret
                exact ⟨by first | rfl | (simp [errW_none, errW_some] <;> rfl) | (simp [*, errW_none, errW_some] <;> rfl), by repeat (first | (with_reducible first | exact HB.out | apply below_alloc | apply pw_below_drewN | apply below_drew1 | refine below_set ?_ GE101.out) | exact HB.out)⟩
               ·replace c37 := Bool.eq_false_iff.mpr c37
                subst c37
                have H1 : (wickerref02_Check.l2 kj32 0 l0_0 l0_1 a0_2 l0_3) = some r := by rw [if_neg (show ¬ (false = true) by decide)] at H; exact H
                clear H
                have H := H1
                clear H1
                have H' := Aside0.mk H
                clear H
                go_wp2
                go_loopg [5] kj32 (fun kq v5 w' => ∃ (x5_6 : Int), v5 = .int .i64 x5_6 ∧ Aside0 (wickerref02_Check.l2 kq x5_6 l0_0 l0_1 a0_2 l0_3 = some r) ∧ Aside0 (kq ≤ kj32) ∧ Aside0 (w'.heap[gb101]? = some (.cells #[(.slice A0_0 l0_0.length c0_0), (.slice A0_1 l0_1.length c0_1), .int .i64 a0_2, (.slice A0_3 l0_3.length c0_3)] 63 (0, 0))) ∧ Aside0 (Below w.heap.size w w'))
                case atStart => exact ⟨(0), (by first | rfl | (simp; done) | (simp [*]; done)), H', ⟨Nat.le_refl _⟩, ⟨by (with_reducible repeat (first | refine blk_drewN ?_ _ | refine blk_drew ?_ | refine blk_alloc ?_ _)); exact BK101.out⟩, ⟨by repeat (first | (with_reducible first | exact HB.out | apply below_alloc | apply pw_below_drewN | apply below_drew1 | refine below_set ?_ GE101.out) | exact HB.out)⟩⟩
                case round =>
                 clear H'
                 try clear c1
                 try clear p1
                 try clear q1
                 try clear hx1
                 try clear c2
                 try clear p2
                 try clear c3
                 try clear c4
                 try clear c4b0
                 try clear c4b1
                 try clear c6
                 try clear c6b0
                 try clear c6b1
                 try clear p6
                 try clear c8
                 try clear c8b0
                 try clear c8b1
                 try clear p10
                 try clear q10
                 try clear hx10
                 try clear c11
                 try clear c12
                 try clear c12b0
                 try clear c13
                 try clear c13b0
                 try clear c15
                 try clear c19
                 try clear c19b0
                 try clear c20
                 try clear c20b0
                 try clear c22
                 try clear c28
                 try clear c32
                 try clear c34
                 try clear c34b0
                 try clear c37
                 try clear hcz10_0
                 try clear hcz10_1
                 try clear hcz10_2
                 try clear hcz10_3
                 try clear hcz16_0
                 try clear hcz16_1
                 try clear hcz16_2
                 try clear hcz16_3
                 try clear hcz17_0
                 try clear hcz17_1
                 try clear hcz17_2
                 try clear hcz17_3
                 try clear hcz18_0
                 try clear hcz18_1
                 try clear hcz18_2
                 try clear hcz18_3
                 try clear hcz23_0
                 try clear hcz23_1
                 try clear hcz23_2
                 try clear hcz23_3
                 try clear hcz24_0
                 try clear hcz24_1
                 try clear hcz24_2
                 try clear hcz24_3
                 try clear hcz26_0
                 try clear hcz26_1
                 try clear hcz26_2
                 try clear hcz26_3
                 try clear hcz29_0
                 try clear hcz29_1
                 try clear hcz29_2
                 try clear hcz29_3
                 try clear hcz31_0
                 try clear hcz31_1
                 try clear hcz31_2
                 try clear hcz31_3
                 try clear hcz35_0
                 try clear hcz35_1
                 try clear hcz35_2
                 try clear hcz35_3
                 try clear hcz36_0
                 try clear hcz36_1
                 try clear hcz36_2
                 try clear hcz36_3
                 try clear hcz5_0
                 try clear hcz5_1
                 try clear hcz5_2
                 try clear hcz5_3
                 try clear hcz7_0
                 try clear hcz7_1
                 try clear hcz7_2
                 try clear hcz7_3
                 try clear hcz9_0
                 try clear hcz9_1
                 try clear hcz9_2
                 try clear hcz9_3
                 try clear hfz10_0
                 try clear hfz10_1
                 try clear hfz10_2
                 try clear hfz10_3
                 try clear hfz16_0
                 try clear hfz16_1
                 try clear hfz16_2
                 try clear hfz16_3
                 try clear hfz17_0
                 try clear hfz17_1
                 try clear hfz17_2
                 try clear hfz17_3
                 try clear hfz18_0
                 try clear hfz18_1
                 try clear hfz18_2
                 try clear hfz18_3
                 try clear hfz23_0
                 try clear hfz23_1
                 try clear hfz23_2
                 try clear hfz23_3
                 try clear hfz24_0
                 try clear hfz24_1
                 try clear hfz24_2
                 try clear hfz24_3
                 try clear hfz26_0
                 try clear hfz26_1
                 try clear hfz26_2
                 try clear hfz26_3
                 try clear hfz29_0
                 try clear hfz29_1
                 try clear hfz29_2
                 try clear hfz29_3
                 try clear hfz31_0
                 try clear hfz31_1
                 try clear hfz31_2
                 try clear hfz31_3
                 try clear hfz35_0
                 try clear hfz35_1
                 try clear hfz35_2
                 try clear hfz35_3
                 try clear hfz36_0
                 try clear hfz36_1
                 try clear hfz36_2
                 try clear hfz36_3
                 try clear hfz5_0
                 try clear hfz5_1
                 try clear hfz5_2
                 try clear hfz5_3
                 try clear hfz7_0
                 try clear hfz7_1
                 try clear hfz7_2
                 try clear hfz7_3
                 try clear hfz9_0
                 try clear hfz9_1
                 try clear hfz9_2
                 try clear hfz9_3
                 try clear hx102_0
                 try clear hx104_0
                 try clear p1
                 try clear p10
                 try clear p102
                 try clear p104
                 try clear p2
                 try clear p6
                 try clear q1
                 try clear q10
                 try clear q102
                 try clear q104
                 obtain ⟨x5_6, rfl, HA, HK6, BK101, HB⟩ := hrel
                 cases gk with
                 | zero => exact absurd HA.out (by simp [wickerref02_Check.l2])
                 | succ k6 =>
                  have H := HA.out
                  clear HA
                  simp only [wickerref02_Check.l2] at H
                  by_cases c38 : x5_6 < (l0_3.length : Int)
                  ·rw [if_pos c38] at H
                   have c38b0 : decide (x5_6 < (l0_3.length : Int)) = true := decide_eq_true c38
                   clear c38
                   by_cases c39 : 0 ≤ x5_6
                   ·rw [if_pos c39] at H
                    have c39b0 : decide (0 ≤ x5_6) = true := decide_eq_true c39
                    clear c39
                    have HC40 := Aside0.mk H
                    clear H
                    have hcz41_0 : wr.cell? ⟨gb101, 0, none⟩ = some (.slice A0_0 l0_0.length c0_0) := (blk_cell BK101.out 0).trans rfl
                    have hcz41_1 : wr.cell? ⟨gb101, 1, none⟩ = some (.slice A0_1 l0_1.length c0_1) := (blk_cell BK101.out 1).trans rfl
                    have hcz41_2 : wr.cell? ⟨gb101, 2, none⟩ = some (.int .i64 a0_2) := (blk_cell BK101.out 2).trans rfl
                    have hcz41_3 : wr.cell? ⟨gb101, 3, none⟩ = some (.slice A0_3 l0_3.length c0_3) := (blk_cell BK101.out 3).trans rfl
                    have hfz41_0 := blk_frozen BK101.out 0
                    have hfz41_1 := blk_frozen BK101.out 1
                    have hfz41_2 := blk_frozen BK101.out 2
                    have hfz41_3 := blk_frozen BK101.out 3
                    have p108 : 0 ≤ (x5_6 : Int) := of_decide_eq_true (by first | (with_reducible assumption) | assumption)
                    have q108 : x5_6 < (l0_3.length : Int) := of_decide_eq_true (by first | (with_reducible assumption) | assumption)
                    obtain ⟨ad108, A108_1, c108_1, e108, hx108_0, hx108_1, hl108_1, hi108_1⟩ := at_T87 HR0_3.out x5_6 p108 q108
                    cases e108
                    replace hx108_0 := (HB.out.cell (World.block_lt_of_cell? w _ hx108_0)).trans hx108_0
                    replace hx108_1 := (HB.out.cell (World.block_lt_of_cell? w _ hx108_1)).trans hx108_1
                    have HR108_1 := Aside0.mk hi108_1
                    have HC108_1 := Aside0.mk hl108_1
                    clear hi108_1 hl108_1
                    replace p108 := eq_true p108
                    replace q108 := eq_true q108
                    go_upto_region 21 with (first | ((with_reducible refine gate_dst (N := 6) rfl ?_); (try (refine gate_guard (by rfl) ?_; dsimp only)); refine box_event ?hg (N := 6) ?hd (cs := #[.int .i64 0, .slice none 0 0]) (t := 87) ?hr ?_; (case hd => rfl); (case hg => rfl); (case hr => first | (go_simp; done) | (go_simp; rfl)); intro gb109 hg w42 hbox hb; have n0_ := Aside0.mk (blk_below (g := gb101) (o := .cells #[.slice A0_0 l0_0.length c0_0, .slice A0_1 l0_1.length c0_1, .int .i64 a0_2, .slice (some ad108) l0_3.length c0_3] 63 (0, 0)) (by (with_reducible repeat (first | refine blk_drewN ?_ _ | refine blk_drew ?_ | refine blk_alloc ?_ _)); exact BK101.out) hb); have n1_ := Aside0.mk (below_step (by repeat (first | (with_reducible first | exact HB.out | apply below_alloc | apply pw_below_drewN | apply below_drew1 | refine below_set ?_ GE101.out) | exact HB.out)) hb); have n2_ := Aside0.mk (hbox); have n3_ := Aside0.mk ((by rw [hg]; exact (below_size (by repeat (first | (with_reducible first | exact HB.out | apply below_alloc | apply pw_below_drewN | apply below_drew1 | refine below_set ?_ GE101.out) | exact HB.out))) : w.heap.size ≤ gb109)); have n4_ := Aside0.mk ((by rw [hg]; exact (below_size (by repeat (first | (with_reducible first | exact HB.out | apply below_alloc | apply pw_below_drewN | apply below_drew1 | refine below_set ?_ GE101.out) | exact HB.out))) : w.heap.size ≤ gb109)); have n5_ := Aside0.mk ((by rw [hg]; exact Nat.ne_of_lt (blk_lt (g := gb101) (o := .cells #[.slice A0_0 l0_0.length c0_0, .slice A0_1 l0_1.length c0_1, .int .i64 a0_2, .slice (some ad108) l0_3.length c0_3] 63 (0, 0)) (by (with_reducible repeat (first | refine blk_drewN ?_ _ | refine blk_drew ?_ | refine blk_alloc ?_ _)); exact BK101.out)) : gb101 ≠ gb109)); have n6_ := Aside0.mk ((by rw [hg]; exact Nat.ne_of_gt (blk_lt (g := gb101) (o := .cells #[.slice A0_0 l0_0.length c0_0, .slice A0_1 l0_1.length c0_1, .int .i64 a0_2, .slice (some ad108) l0_3.length c0_3] 63 (0, 0)) (by (with_reducible repeat (first | refine blk_drewN ?_ _ | refine blk_drew ?_ | refine blk_alloc ?_ _)); exact BK101.out)) : gb109 ≠ gb101)); clear BK101; clear HB; have BK101 := n0_; have HB := n1_; have BK109 := n2_; have GW109 := n3_; have GE109 := n4_; have NB101_109 := n5_; have NB109_101 := n6_; clear n0_ n1_ n2_ n3_ n4_ n5_ n6_; clear hb hbox hg; have hnb43 := NB109_101.out; have hnc43 := NB101_109.out; have hcz44_0 : w42.cell? ⟨gb109, 0, none⟩ = some (.int .i64 0) := (blk_cell BK109.out 0).trans rfl; have hcz44_1 : w42.cell? ⟨gb109, 1, none⟩ = some (.slice none 0 0) := (blk_cell BK109.out 1).trans rfl; have hfz44_0 := blk_frozen BK109.out 0; have hfz44_1 := blk_frozen BK109.out 1))
                    (try simp only [Act.put, List.setIfInBounds_toArray, List.set_cons_zero, List.set_cons_succ])
                    go_cut [100] (fun v100 wc => ∃ (kq : Nat) (x100_39 : Bool), v100 = .bool x100_39 ∧ Aside0 (wickerref02_Check.j6 kq x5_6 x100_39 l0_0 l0_1 a0_2 l0_3 ((rd_T87 l0_3 x5_6).f0) ((rd_T87 l0_3 x5_6).f1) = some r) ∧ Aside0 (kq ≤ k6) ∧ Aside0 (wc.heap[gb101]? = some (.cells #[(.slice A0_0 l0_0.length c0_0), (.slice A0_1 l0_1.length c0_1), .int .i64 a0_2, (.slice (some ad108) l0_3.length c0_3)] 63 (0, 0))) ∧ Aside0 (wc.heap[gb109]? = some (.cells #[.int .i64 ((rd_T87 l0_3 x5_6).f0), (.slice A108_1 ((rd_T87 l0_3 x5_6).f1).length c108_1)] 87 (0, 0))) ∧ Aside0 (Below w.heap.size w wc))
                    case first =>
                     have H := HC40.out
                     clear HC40
                     by_cases c45 : ((rd_T87 l0_3 x5_6).f0) < 0
                     ·rw [if_pos c45] at H
                      have c45b0 : decide (((rd_T87 l0_3 x5_6).f0) < 0) = true := decide_eq_true c45
                      clear c45
                      (first | rw [c45b0] | (simp only [i64_w, i32_w]; rw [c45b0]) | skip)
                      have H' := Aside0.mk H
                      clear H
                      have hnb46 := NB109_101.out
                      have hnc46 := NB101_109.out
                      have hcz47_0 : w42.cell? ⟨gb109, 0, none⟩ = some (.int .i64 0) := (blk_cell BK109.out 0).trans rfl
                      have hcz47_1 : w42.cell? ⟨gb109, 1, none⟩ = some (.slice none 0 0) := (blk_cell BK109.out 1).trans rfl
                      have hfz47_0 := blk_frozen BK109.out 0
                      have hfz47_1 := blk_frozen BK109.out 1
                      go_wp2
                      go_meet
                      case rel => exact ⟨_, (true), (by first | rfl | (simp; done) | (simp [*]; done)), H', ⟨by have := HJ1.out; have := HK2.out; have := HK3.out; have := HJ24.out; have := HJ32.out; have := HK6.out; first | omega | exact Nat.le_refl _⟩, ⟨by (with_reducible repeat (first | refine blk_drewN ?_ _ | refine blk_drew ?_ | refine blk_alloc ?_ _)); refine blk_far ?_ NB101_109.out _; (with_reducible repeat (first | refine blk_drewN ?_ _ | refine blk_drew ?_ | refine blk_alloc ?_ _)); refine blk_far ?_ NB101_109.out _; (with_reducible repeat (first | refine blk_drewN ?_ _ | refine blk_drew ?_ | refine blk_alloc ?_ _)); exact BK101.out⟩, ⟨by (with_reducible repeat (first | refine blk_drewN ?_ _ | refine blk_drew ?_ | refine blk_alloc ?_ _)); refine blk_put (cs := #[.int .i64 ((rd_T87 l0_3 x5_6).f0), .slice none 0 0]) ?_ 1 _ rfl; (with_reducible repeat (first | refine blk_drewN ?_ _ | refine blk_drew ?_ | refine blk_alloc ?_ _)); refine blk_put (cs := #[.int .i64 0, .slice none 0 0]) ?_ 0 _ rfl; (with_reducible repeat (first | refine blk_drewN ?_ _ | refine blk_drew ?_ | refine blk_alloc ?_ _)); exact BK109.out⟩, ⟨by repeat (first | (with_reducible first | exact HB.out | apply below_alloc | apply pw_below_drewN | apply below_drew1 | refine below_set ?_ GE101.out | refine below_set ?_ GE109.out) | exact HB.out)⟩⟩
                     ·rw [if_neg c45] at H
                      have c45b0 : decide (((rd_T87 l0_3 x5_6).f0) < 0) = false := decide_eq_false c45
                      clear c45
                      (first | rw [c45b0] | (simp only [i64_w, i32_w]; rw [c45b0]) | skip)
                      have H' := Aside0.mk H
                      clear H
                      have hnb48 := NB109_101.out
                      have hnc48 := NB101_109.out
                      have hcz49_0 : w42.cell? ⟨gb109, 0, none⟩ = some (.int .i64 0) := (blk_cell BK109.out 0).trans rfl
                      have hcz49_1 : w42.cell? ⟨gb109, 1, none⟩ = some (.slice none 0 0) := (blk_cell BK109.out 1).trans rfl
                      have hfz49_0 := blk_frozen BK109.out 0
                      have hfz49_1 := blk_frozen BK109.out 1
                      have hcz50_0 : w42.cell? ⟨gb101, 0, none⟩ = some (.slice A0_0 l0_0.length c0_0) := (blk_cell BK101.out 0).trans rfl
                      have hcz50_1 : w42.cell? ⟨gb101, 1, none⟩ = some (.slice A0_1 l0_1.length c0_1) := (blk_cell BK101.out 1).trans rfl
                      have hcz50_2 : w42.cell? ⟨gb101, 2, none⟩ = some (.int .i64 a0_2) := (blk_cell BK101.out 2).trans rfl
                      have hcz50_3 : w42.cell? ⟨gb101, 3, none⟩ = some (.slice (some ad108) l0_3.length c0_3) := (blk_cell BK101.out 3).trans rfl
                      have hfz50_0 := blk_frozen BK101.out 0
                      have hfz50_1 := blk_frozen BK101.out 1
                      have hfz50_2 := blk_frozen BK101.out 2
                      have hfz50_3 := blk_frozen BK101.out 3
                      go_wp2
                      go_meet
                      case rel => exact ⟨_, (decide (((rd_T87 l0_3 x5_6).f0) ≥ (l0_0.length : Int))), (by first | rfl | (simp; done) | (simp [*]; done)), H', ⟨by have := HJ1.out; have := HK2.out; have := HK3.out; have := HJ24.out; have := HJ32.out; have := HK6.out; first | omega | exact Nat.le_refl _⟩, ⟨by (with_reducible repeat (first | refine blk_drewN ?_ _ | refine blk_drew ?_ | refine blk_alloc ?_ _)); refine blk_far ?_ NB101_109.out _; (with_reducible repeat (first | refine blk_drewN ?_ _ | refine blk_drew ?_ | refine blk_alloc ?_ _)); refine blk_far ?_ NB101_109.out _; (with_reducible repeat (first | refine blk_drewN ?_ _ | refine blk_drew ?_ | refine blk_alloc ?_ _)); exact BK101.out⟩, ⟨by (with_reducible repeat (first | refine blk_drewN ?_ _ | refine blk_drew ?_ | refine blk_alloc ?_ _)); refine blk_put (cs := #[.int .i64 ((rd_T87 l0_3 x5_6).f0), .slice none 0 0]) ?_ 1 _ rfl; (with_reducible repeat (first | refine blk_drewN ?_ _ | refine blk_drew ?_ | refine blk_alloc ?_ _)); refine blk_put (cs := #[.int .i64 0, .slice none 0 0]) ?_ 0 _ rfl; (with_reducible repeat (first | refine blk_drewN ?_ _ | refine blk_drew ?_ | refine blk_alloc ?_ _)); exact BK109.out⟩, ⟨by repeat (first | (with_reducible first | exact HB.out | apply below_alloc | apply pw_below_drewN | apply below_drew1 | refine below_set ?_ GE101.out | refine below_set ?_ GE109.out) | exact HB.out)⟩⟩
                    case rest =>
                     clear HC40
                     try clear c1
                     try clear p1
                     try clear q1
                     try clear hx1
                     try clear c2
                     try clear p2
                     try clear c3
                     try clear c4
                     try clear c4b0
                     try clear c4b1
                     try clear c6
                     try clear c6b0
                     try clear c6b1
                     try clear p6
                     try clear c8
                     try clear c8b0
                     try clear c8b1
                     try clear c10
                     try clear p10
                     try clear q10
                     try clear hx10
                     try clear c11
                     try clear c12
                     try clear c12b0
                     try clear c13
                     try clear c13b0
                     try clear c15
                     try clear c19
                     try clear c19b0
                     try clear c20
                     try clear c20b0
                     try clear c22
                     try clear c28
                     try clear c32
                     try clear c34
                     try clear c34b0
                     try clear c37
                     try clear c38
                     try clear c38b0
                     try clear c39
                     try clear c39b0
                     try clear c43
                     try clear c45
                     try clear c45b0
                     try clear c46
                     try clear c48
                     try clear hcz10_0
                     try clear hcz10_1
                     try clear hcz10_2
                     try clear hcz10_3
                     try clear hcz16_0
                     try clear hcz16_1
                     try clear hcz16_2
                     try clear hcz16_3
                     try clear hcz17_0
                     try clear hcz17_1
                     try clear hcz17_2
                     try clear hcz17_3
                     try clear hcz18_0
                     try clear hcz18_1
                     try clear hcz18_2
                     try clear hcz18_3
                     try clear hcz23_0
                     try clear hcz23_1
                     try clear hcz23_2
                     try clear hcz23_3
                     try clear hcz24_0
                     try clear hcz24_1
                     try clear hcz24_2
                     try clear hcz24_3
                     try clear hcz26_0
                     try clear hcz26_1
                     try clear hcz26_2
                     try clear hcz26_3
                     try clear hcz29_0
                     try clear hcz29_1
                     try clear hcz29_2
                     try clear hcz29_3
                     try clear hcz31_0
                     try clear hcz31_1
                     try clear hcz31_2
                     try clear hcz31_3
                     try clear hcz35_0
                     try clear hcz35_1
                     try clear hcz35_2
                     try clear hcz35_3
                     try clear hcz36_0
                     try clear hcz36_1
                     try clear hcz36_2
                     try clear hcz36_3
                     try clear hcz41_0
                     try clear hcz41_1
                     try clear hcz41_2
                     try clear hcz41_3
                     try clear hcz44_0
                     try clear hcz44_1
                     try clear hcz47_0
                     try clear hcz47_1
                     try clear hcz49_0
                     try clear hcz49_1
                     try clear hcz50_0
                     try clear hcz50_1
                     try clear hcz50_2
                     try clear hcz50_3
                     try clear hcz5_0
                     try clear hcz5_1
                     try clear hcz5_2
                     try clear hcz5_3
                     try clear hcz7_0
                     try clear hcz7_1
                     try clear hcz7_2
                     try clear hcz7_3
                     try clear hcz9_0
                     try clear hcz9_1
                     try clear hcz9_2
                     try clear hcz9_3
                     try clear hfz10_0
                     try clear hfz10_1
                     try clear hfz10_2
                     try clear hfz10_3
                     try clear hfz16_0
                     try clear hfz16_1
                     try clear hfz16_2
                     try clear hfz16_3
                     try clear hfz17_0
                     try clear hfz17_1
                     try clear hfz17_2
                     try clear hfz17_3
                     try clear hfz18_0
                     try clear hfz18_1
                     try clear hfz18_2
                     try clear hfz18_3
                     try clear hfz23_0
                     try clear hfz23_1
                     try clear hfz23_2
                     try clear hfz23_3
                     try clear hfz24_0
                     try clear hfz24_1
                     try clear hfz24_2
                     try clear hfz24_3
                     try clear hfz26_0
                     try clear hfz26_1
                     try clear hfz26_2
                     try clear hfz26_3
                     try clear hfz29_0
                     try clear hfz29_1
                     try clear hfz29_2
                     try clear hfz29_3
                     try clear hfz31_0
                     try clear hfz31_1
                     try clear hfz31_2
                     try clear hfz31_3
                     try clear hfz35_0
                     try clear hfz35_1
                     try clear hfz35_2
                     try clear hfz35_3
                     try clear hfz36_0
                     try clear hfz36_1
                     try clear hfz36_2
                     try clear hfz36_3
                     try clear hfz41_0
                     try clear hfz41_1
                     try clear hfz41_2
                     try clear hfz41_3
                     try clear hfz44_0
                     try clear hfz44_1
                     try clear hfz47_0
                     try clear hfz47_1
                     try clear hfz49_0
                     try clear hfz49_1
                     try clear hfz50_0
                     try clear hfz50_1
                     try clear hfz50_2
                     try clear hfz50_3
                     try clear hfz5_0
                     try clear hfz5_1
                     try clear hfz5_2
                     try clear hfz5_3
                     try clear hfz7_0
                     try clear hfz7_1
                     try clear hfz7_2
                     try clear hfz7_3
                     try clear hfz9_0
                     try clear hfz9_1
                     try clear hfz9_2
                     try clear hfz9_3
                     try clear hx102_0
                     try clear hx104_0
                     try clear hx108_0
                     try clear hx108_1
                     try clear p1
                     try clear p10
                     try clear p102
                     try clear p104
                     try clear p108
                     try clear p2
                     try clear p6
                     try clear q1
                     try clear q10
                     try clear q102
                     try clear q104
                     try clear q108
                     obtain ⟨kq, x100_39, rfl, HA, HJ39, BK101, BK109, HB⟩ := hcut
                     cases kq with
                     | zero => exact absurd HA.out (by simp [wickerref02_Check.j6])
                     | succ kj39 =>
                      have H := HA.out
                      clear HA
                      simp only [wickerref02_Check.j6] at H
                      by_cases c51 : x100_39 = true
                      ·subst c51
                       have H1 : (some 3) = some r := by rw [if_pos rfl] at H; exact H
                       clear H
                       have H := H1
                       clear H1
                       obtain rfl := Option.some.inj H
                       go_wp2
                       go_ret
                       exact ⟨by first | rfl | (simp [errW_none, errW_some] <;> rfl) | (simp [*, errW_none, errW_some] <;> rfl), by repeat (first | (with_reducible first | exact HB.out | apply below_alloc | apply pw_below_drewN | apply below_drew1 | refine below_set ?_ GE101.out | refine below_set ?_ GE109.out) | exact HB.out)⟩
                      ·replace c51 := Bool.eq_false_iff.mpr c51
                       subst c51
                       have H1 : (wickerref02_Check.l3 kj39 x5_6 0 l0_0 l0_1 a0_2 l0_3 ((rd_T87 l0_3 x5_6).f0) ((rd_T87 l0_3 x5_6).f1)) = some r := by rw [if_neg (show ¬ (false = true) by decide)] at H; exact H
                       clear H
                       have H := H1
                       clear H1
                       have H' := Aside0.mk H
                       clear H
                       go_wp2
                       go_loopg [7] kj39 (fun kq v7 w' => ∃ (x7_8 : Int), v7 = .int .i64 x7_8 ∧ Aside0 (wickerref02_Check.l3 kq x5_6 x7_8 l0_0 l0_1 a0_2 l0_3 ((rd_T87 l0_3 x5_6).f0) ((rd_T87 l0_3 x5_6).f1) = some r) ∧ Aside0 (kq ≤ kj39) ∧ Aside0 (w'.heap[gb101]? = some (.cells #[(.slice A0_0 l0_0.length c0_0), (.slice A0_1 l0_1.length c0_1), .int .i64 a0_2, (.slice (some ad108) l0_3.length c0_3)] 63 (0, 0))) ∧ Aside0 (w'.heap[gb109]? = some (.cells #[.int .i64 ((rd_T87 l0_3 x5_6).f0), (.slice A108_1 ((rd_T87 l0_3 x5_6).f1).length c108_1)] 87 (0, 0))) ∧ Aside0 (Below w.heap.size w w'))
                       case atStart => exact ⟨(0), (by first | rfl | (simp; done) | (simp [*]; done)), H', ⟨Nat.le_refl _⟩, ⟨by (with_reducible repeat (first | refine blk_drewN ?_ _ | refine blk_drew ?_ | refine blk_alloc ?_ _)); exact BK101.out⟩, ⟨by (with_reducible repeat (first | refine blk_drewN ?_ _ | refine blk_drew ?_ | refine blk_alloc ?_ _)); exact BK109.out⟩, ⟨by repeat (first | (with_reducible first | exact HB.out | apply below_alloc | apply pw_below_drewN | apply below_drew1 | refine below_set ?_ GE101.out | refine below_set ?_ GE109.out) | exact HB.out)⟩⟩
                       case round =>
                        clear H'
                        try clear c1
                        try clear p1
                        try clear q1
                        try clear hx1
                        try clear c2
                        try clear p2
                        try clear c3
                        try clear c4
                        try clear c4b0
                        try clear c4b1
                        try clear c5
                        try clear c6
                        try clear c6b0
                        try clear c6b1
                        try clear p6
                        try clear c8
                        try clear c8b0
                        try clear c8b1
                        try clear c10
                        try clear p10
                        try clear q10
                        try clear hx10
                        try clear c11
                        try clear c12
                        try clear c12b0
                        try clear c13
                        try clear c13b0
                        try clear c15
                        try clear c19
                        try clear c19b0
                        try clear c20
                        try clear c20b0
                        try clear c22
                        try clear c28
                        try clear c32
                        try clear c34
                        try clear c34b0
                        try clear c37
                        try clear c38
                        try clear c38b0
                        try clear c39
                        try clear c39b0
                        try clear c43
                        try clear c45
                        try clear c45b0
                        try clear c46
                        try clear c48
                        try clear c51
                        try clear hcz10_0
                        try clear hcz10_1
                        try clear hcz10_2
                        try clear hcz10_3
                        try clear hcz16_0
                        try clear hcz16_1
                        try clear hcz16_2
                        try clear hcz16_3
                        try clear hcz17_0
                        try clear hcz17_1
                        try clear hcz17_2
                        try clear hcz17_3
                        try clear hcz18_0
                        try clear hcz18_1
                        try clear hcz18_2
                        try clear hcz18_3
                        try clear hcz23_0
                        try clear hcz23_1
                        try clear hcz23_2
                        try clear hcz23_3
                        try clear hcz24_0
                        try clear hcz24_1
                        try clear hcz24_2
                        try clear hcz24_3
                        try clear hcz26_0
                        try clear hcz26_1
                        try clear hcz26_2
                        try clear hcz26_3
                        try clear hcz29_0
                        try clear hcz29_1
                        try clear hcz29_2
                        try clear hcz29_3
                        try clear hcz31_0
                        try clear hcz31_1
                        try clear hcz31_2
                        try clear hcz31_3
                        try clear hcz35_0
                        try clear hcz35_1
                        try clear hcz35_2
                        try clear hcz35_3
                        try clear hcz36_0
                        try clear hcz36_1
                        try clear hcz36_2
                        try clear hcz36_3
                        try clear hcz41_0
                        try clear hcz41_1
                        try clear hcz41_2
                        try clear hcz41_3
                        try clear hcz44_0
                        try clear hcz44_1
                        try clear hcz47_0
                        try clear hcz47_1
                        try clear hcz49_0
                        try clear hcz49_1
                        try clear hcz50_0
                        try clear hcz50_1
                        try clear hcz50_2
                        try clear hcz50_3
                        try clear hcz5_0
                        try clear hcz5_1
                        try clear hcz5_2
                        try clear hcz5_3
                        try clear hcz7_0
                        try clear hcz7_1
                        try clear hcz7_2
                        try clear hcz7_3
                        try clear hcz9_0
                        try clear hcz9_1
                        try clear hcz9_2
                        try clear hcz9_3
                        try clear hfz10_0
                        try clear hfz10_1
                        try clear hfz10_2
                        try clear hfz10_3
                        try clear hfz16_0
                        try clear hfz16_1
                        try clear hfz16_2
                        try clear hfz16_3
                        try clear hfz17_0
                        try clear hfz17_1
                        try clear hfz17_2
                        try clear hfz17_3
                        try clear hfz18_0
                        try clear hfz18_1
                        try clear hfz18_2
                        try clear hfz18_3
                        try clear hfz23_0
                        try clear hfz23_1
                        try clear hfz23_2
                        try clear hfz23_3
                        try clear hfz24_0
                        try clear hfz24_1
                        try clear hfz24_2
                        try clear hfz24_3
                        try clear hfz26_0
                        try clear hfz26_1
                        try clear hfz26_2
                        try clear hfz26_3
                        try clear hfz29_0
                        try clear hfz29_1
                        try clear hfz29_2
                        try clear hfz29_3
                        try clear hfz31_0
                        try clear hfz31_1
                        try clear hfz31_2
                        try clear hfz31_3
                        try clear hfz35_0
                        try clear hfz35_1
                        try clear hfz35_2
                        try clear hfz35_3
                        try clear hfz36_0
                        try clear hfz36_1
                        try clear hfz36_2
                        try clear hfz36_3
                        try clear hfz41_0
                        try clear hfz41_1
                        try clear hfz41_2
                        try clear hfz41_3
                        try clear hfz44_0
                        try clear hfz44_1
                        try clear hfz47_0
                        try clear hfz47_1
                        try clear hfz49_0
                        try clear hfz49_1
                        try clear hfz50_0
                        try clear hfz50_1
                        try clear hfz50_2
                        try clear hfz50_3
                        try clear hfz5_0
                        try clear hfz5_1
                        try clear hfz5_2
                        try clear hfz5_3
                        try clear hfz7_0
                        try clear hfz7_1
                        try clear hfz7_2
                        try clear hfz7_3
                        try clear hfz9_0
                        try clear hfz9_1
                        try clear hfz9_2
                        try clear hfz9_3
                        try clear hx102_0
                        try clear hx104_0
                        try clear hx108_0
                        try clear hx108_1
                        try clear p1
                        try clear p10
                        try clear p102
                        try clear p104
                        try clear p108
                        try clear p2
                        try clear p6
                        try clear q1
                        try clear q10
                        try clear q102
                        try clear q104
                        try clear q108
                        obtain ⟨x7_8, rfl, HA, HK8, BK101, BK109, HB⟩ := hrel
                        cases gk with
                        | zero => exact absurd HA.out (by simp [wickerref02_Check.l3])
                        | succ k8 =>
                         have H := HA.out
                         clear HA
                         simp only [wickerref02_Check.l3] at H
                         by_cases c52 : x7_8 < (((rd_T87 l0_3 x5_6).f1).length : Int)
                         ·rw [if_pos c52] at H
                          have c52b0 : decide (x7_8 < (((rd_T87 l0_3 x5_6).f1).length : Int)) = true := decide_eq_true c52
                          clear c52
                          by_cases c53 : 0 ≤ x7_8
                          ·rw [if_pos c53] at H
                           have c53b0 : decide (0 ≤ x7_8) = true := decide_eq_true c53
                           clear c53
                           replace H := Option.bind_eq_some_iff.mp H
                           obtain ⟨t111, A540, H⟩ := H
                           replace H : (if t111 = true then (wickerref02_Check.l3 k8 x5_6 (wrap64 (x7_8 + 1)) l0_0 l0_1 a0_2 l0_3 ((rd_T87 l0_3 x5_6).f0) ((rd_T87 l0_3 x5_6).f1)) else (some 3)) = some r := H
                           have A54 := Aside0.mk A540
                           clear A540
                           by_cases c55 : t111 = true
                           ·subst c55
                            have H1 : (wickerref02_Check.l3 k8 x5_6 (wrap64 (x7_8 + 1)) l0_0 l0_1 a0_2 l0_3 ((rd_T87 l0_3 x5_6).f0) ((rd_T87 l0_3 x5_6).f1)) = some r := by rw [if_pos rfl] at H; exact H
                            clear H
                            have H := H1
                            clear H1
                            have H' := Aside0.mk H
                            clear H
                            have hnb56 := NB109_101.out
                            have hnc56 := NB101_109.out
                            have hcz57_0 : wr.cell? ⟨gb109, 0, none⟩ = some (.int .i64 ((rd_T87 l0_3 x5_6).f0)) := (blk_cell BK109.out 0).trans rfl
                            have hcz57_1 : wr.cell? ⟨gb109, 1, none⟩ = some (.slice A108_1 ((rd_T87 l0_3 x5_6).f1).length c108_1) := (blk_cell BK109.out 1).trans rfl
                            have hfz57_0 := blk_frozen BK109.out 0
                            have hfz57_1 := blk_frozen BK109.out 1
                            try go_wp2
                            have n0_ := Aside0.mk (blk_drew BK101.out)
                            have n1_ := Aside0.mk (blk_drew BK109.out)
                            have n2_ := Aside0.mk (below_drew1 HB.out)
                            clear BK101
                            clear BK109
                            clear HB
                            have BK101 := n0_
                            have BK109 := n1_
                            have HB := n2_
                            clear n0_ n1_ n2_
                            have p110 : 0 ≤ (x7_8 : Int) := of_decide_eq_true (by first | (with_reducible assumption) | assumption)
                            have q110 : x7_8 < (((rd_T87 l0_3 x5_6).f1).length : Int) := of_decide_eq_true (by first | (with_reducible assumption) | assumption)
                            obtain ⟨ad110, e110, hx110_0⟩ := Kd.at_int HR108_1.out x7_8 p110 q110
                            have hw110_0 := hx110_0
                            cases e110
                            replace hx110_0 := (HB.out.cell (World.block_lt_of_cell? w _ hx110_0)).trans hx110_0
                            replace p110 := eq_true p110
                            replace q110 := eq_true q110
                            refine start_ (n := 8) (S := fun w' => w'.cell? ⟨gb101, 0, none⟩ = some (.slice A0_0 l0_0.length c0_0) ∧ w'.cell? ⟨gb101, 1, none⟩ = some (.slice A0_1 l0_1.length c0_1) ∧ w'.cell? ⟨gb101, 2, none⟩ = some (.int .i64 a0_2) ∧ w'.cell? ⟨gb101, 3, none⟩ = some (.slice (some ad108) l0_3.length c0_3) ∧ w'.cell? ⟨gb109, 0, none⟩ = some (.int .i64 ((rd_T87 l0_3 x5_6).f0)) ∧ w'.cell? ⟨gb109, 1, none⟩ = some (.slice (some ad110) ((rd_T87 l0_3 x5_6).f1).length c108_1) ∧ w'.cell? (ad110.add (x7_8).toNat) = some (.int .i64 (rd ((rd_T87 l0_3 x5_6).f1) x7_8))) (ds := []) #[false, false, false, false, false, false, false, false] (by kernel_rfl) rfl rfl ⟨(blk_cell BK101.out 0).trans rfl, (blk_cell BK101.out 1).trans rfl, (blk_cell BK101.out 2).trans rfl, (blk_cell BK101.out 3).trans rfl, (blk_cell BK109.out 0).trans rfl, (blk_cell BK109.out 1).trans rfl, ((HB.out.cell (World.block_lt_of_cell? w _ hw110_0)).trans hw110_0)⟩ (fun hHeld => ?_); refine with_tabW wickerref02_Check.tab26 wickerref02_Check.bits26 (fun HT_ HW_ => ?_)
                            generalize wr.drew = w58 at BK101 BK109 HB hx110_0 hHeld ⊢
                            refine pure_ (i := 1) (N := some 109) (v := ?_) (a' := ?_) #[false, true, false, false, false, false, false, false] rfl rfl (any_of HT_.out (by kernel_rfl)) (fun _ _ _ h => h) (Or.inl ⟨by rfl, ?_⟩) ?_ ?_
                            rotate_left
                            ·intro w'
                             go_simp
                             with_reducible rfl
                            rotate_left
                            ·simp only [Act.put, List.setIfInBounds_toArray, List.set_cons_zero, List.set_cons_succ, i64_w, i32_w]
                             rfl
                            refine pure_ (i := 3) (N := some 111) (v := ?_) (a' := ?_) #[false, true, false, true, false, false, false, false] rfl rfl (any_of HT_.out (by kernel_rfl)) (fun _ _ _ h => h) (Or.inl ⟨by rfl, ?_⟩) ?_ ?_
                            rotate_left
                            ·intro w'
                             go_simp
                             with_reducible rfl
                            rotate_left
                            ·simp only [Act.put, List.setIfInBounds_toArray, List.set_cons_zero, List.set_cons_succ, i64_w, i32_w]
                             rfl
                            refine take_ (i := 0) (N := some 108) (v := ?_) (a' := ?_) #[true, true, false, true, false, false, false, false] rfl rfl (take_ofW HT_.out HW_.out (by kernel_rfl)) (fun _ _ _ h => h) (Or.inl ⟨by rfl, ?_⟩) hHeld ?_ ?_
                            rotate_left
                            ·rintro w' ⟨s0, s1, s2, s3, s4, s5, s6⟩
                             go_simp
                             with_reducible rfl
                            rotate_left
                            ·simp only [Act.put, List.setIfInBounds_toArray, List.set_cons_zero, List.set_cons_succ, i64_w, i32_w]
                             rfl
                            refine take_ (i := 2) (N := some 110) (v := ?_) (a' := ?_) #[true, true, true, true, false, false, false, false] rfl rfl (take_ofW HT_.out HW_.out (by kernel_rfl)) (fun _ _ _ h => h) (Or.inl ⟨by rfl, ?_⟩) hHeld ?_ ?_
                            rotate_left
                            ·rintro w' ⟨s0, s1, s2, s3, s4, s5, s6⟩
                             go_simp
                             with_reducible rfl
                            rotate_left
                            ·simp only [Act.put, List.setIfInBounds_toArray, List.set_cons_zero, List.set_cons_succ, i64_w, i32_w]
                             rfl
                            refine pure_ (i := 4) (N := some 112) (v := ?_) (a' := ?_) #[true, true, true, true, true, false, false, false] rfl rfl (any_of HT_.out (by kernel_rfl)) (fun _ _ _ h => h) (Or.inl ⟨by rfl, ?_⟩) ?_ ?_
                            rotate_left
                            ·intro w'
                             go_simp
                             with_reducible rfl
                            rotate_left
                            ·simp only [Act.put, List.setIfInBounds_toArray, List.set_cons_zero, List.set_cons_succ, i64_w, i32_w]
                             rfl
                            refine take_ (i := 5) (N := some 113) (v := ?_) (a' := ?_) #[true, true, true, true, true, true, false, false] rfl rfl (take_ofW HT_.out HW_.out (by kernel_rfl)) (fun _ _ _ h => h) (Or.inl ⟨by rfl, ?_⟩) hHeld ?_ ?_
                            rotate_left
                            ·rintro w' ⟨s0, s1, s2, s3, s4, s5, s6⟩
                             go_simp
                             with_reducible rfl
                            rotate_left
                            ·simp only [Act.put, List.setIfInBounds_toArray, List.set_cons_zero, List.set_cons_succ, i64_w, i32_w]
                             rfl
                            refine one_ (i := 6) (N := some 114) #[true, true, true, true, true, true, true, false] rfl rfl (one_of HT_.out (by kernel_rfl)) (by decide) (fun K hK => ?_)
                            refine goes_ Tryd.func104 (by kernel_rfl) rfl #[.agg #[.slice A0_0 l0_0.length c0_0, .slice A0_1 l0_1.length c0_1, .int .i64 a0_2, .slice (some ad108) l0_3.length c0_3], .int .i64 (rd ((rd_T87 l0_3 x5_6).f1) x7_8)] (by rfl) rfl rfl (by (try simp only [List.map_toArray, List.map_cons, List.map_nil]); first | done | rfl | (simp only [List.length_drop, List.length_take]; rfl)) ?_
                            with_reducible refine (wickerref02_Has.calls _ _ l0_0 _ _ l0_1 a0_2 _ _ l0_3 (rd ((rd_T87 l0_3 x5_6).f1) x7_8) true _ ?side1 ?side2 ?side3 ?side4 ?side5 ?side6 A54.out).mono ?_
                            (case side1 => repeat (first | exact (Kd.C_below HR0_0.out HB.out) | (with_reducible refine Kd.C_alloc ?_ _) | (with_reducible refine Kd.C_drewN ?_ _) | (with_reducible refine Kd.C_drew ?_)))
                            (case side2 => exact HC0_0.out)
                            (case side3 => repeat (first | exact (Kd.C_below HR0_1.out HB.out) | (with_reducible refine Kd.C_alloc ?_ _) | (with_reducible refine Kd.C_drewN ?_ _) | (with_reducible refine Kd.C_drew ?_)))
                            (case side4 => exact HC0_1.out)
                            (case side5 => repeat (first | exact (Kd.C_below HR0_3.out HB.out) | (with_reducible refine Kd.C_alloc ?_ _) | (with_reducible refine Kd.C_drewN ?_ _) | (with_reducible refine Kd.C_drew ?_)))
                            (case side6 => exact HC0_3.out)
                            rintro e w59 ⟨rfl, hb⟩
                            refine ⟨_, rfl, ?_⟩
                            have n0_ := Aside0.mk (blk_below (g := gb101) (o := .cells #[.slice A0_0 l0_0.length c0_0, .slice A0_1 l0_1.length c0_1, .int .i64 a0_2, .slice (some ad108) l0_3.length c0_3] 63 (0, 0)) (by (with_reducible repeat (first | refine blk_drewN ?_ _ | refine blk_drew ?_ | refine blk_alloc ?_ _)); exact BK101.out) hb)
                            have n1_ := Aside0.mk (blk_below (g := gb109) (o := .cells #[.int .i64 ((rd_T87 l0_3 x5_6).f0), .slice (some ad110) ((rd_T87 l0_3 x5_6).f1).length c108_1] 87 (0, 0)) (by (with_reducible repeat (first | refine blk_drewN ?_ _ | refine blk_drew ?_ | refine blk_alloc ?_ _)); exact BK109.out) hb)
                            have n2_ := Aside0.mk (below_step (by repeat (first | (with_reducible first | exact HB.out | apply below_alloc | apply pw_below_drewN | apply below_drew1 | refine below_set ?_ GE101.out | refine below_set ?_ GE109.out) | exact HB.out)) hb)
                            clear BK101
                            clear BK109
                            clear HB
                            have BK101 := n0_
                            have BK109 := n1_
                            have HB := n2_
                            clear n0_ n1_ n2_
                            (try clear hb)
                            (try clear hb2)
                            (try clear hk)
                            (try clear hi)
                            refine hK.out _ _ ⟨(blk_cell BK101.out 0).trans rfl, (blk_cell BK101.out 1).trans rfl, (blk_cell BK101.out 2).trans rfl, (blk_cell BK101.out 3).trans rfl, (blk_cell BK109.out 0).trans rfl, (blk_cell BK109.out 1).trans rfl, ((HB.out.cell (World.block_lt_of_cell? w _ hw110_0)).trans hw110_0)⟩ (fun hHeld => ?_)
                            clear hK K
                            refine norm_ (a' := ?_) ?_ ?_
                            rotate_left
                            ·show Act.put _ (some 114) _ = _
                             simp only [Act.put, List.setIfInBounds_toArray, List.set_cons_zero, List.set_cons_succ, i64_w, i32_w]
                             rfl
                            refine pure_ (i := 7) (N := some 115) (v := ?_) (a' := ?_) #[true, true, true, true, true, true, true, true] rfl rfl (any_of HT_.out (by kernel_rfl)) (fun _ _ _ h => h) (Or.inl ⟨by rfl, ?_⟩) ?_ ?_
                            rotate_left
                            ·intro w'
                             go_simp
                             with_reducible rfl
                            rotate_left
                            ·simp only [Act.put, List.setIfInBounds_toArray, List.set_cons_zero, List.set_cons_succ, i64_w, i32_w]
                             rfl
                            refine done_ (done_of HT_.out (by kernel_rfl)) ?_
                            try go_wp2
                            go_roundg k8
                            case measure => have := HJ1.out; have := HK2.out; have := HK3.out; have := HJ24.out; have := HJ32.out; have := HK6.out; have := HJ39.out; have := HK8.out; omega
                            case rel => exact ⟨(wrap64 (x7_8 + 1)), (by first | rfl | (simp; done) | (simp [*]; done)), H', ⟨by have := HJ1.out; have := HK2.out; have := HK3.out; have := HJ24.out; have := HJ32.out; have := HK6.out; have := HJ39.out; have := HK8.out; omega⟩, ⟨by (with_reducible repeat (first | refine blk_drewN ?_ _ | refine blk_drew ?_ | refine blk_alloc ?_ _)); exact BK101.out⟩, ⟨by (with_reducible repeat (first | refine blk_drewN ?_ _ | refine blk_drew ?_ | refine blk_alloc ?_ _)); exact BK109.out⟩, ⟨by repeat (first | (with_reducible first | exact HB.out | apply below_alloc | apply pw_below_drewN | apply below_drew1 | refine below_set ?_ GE101.out | refine below_set ?_ GE109.out) | exact HB.out)⟩⟩
                           ·replace c55 := Bool.eq_false_iff.mpr c55
                            subst c55
                            have H1 : (some 3) = some r := by rw [if_neg (show ¬ (false = true) by decide)] at H; exact H
                            clear H
                            have H := H1
                            clear H1
                            obtain rfl := Option.some.inj H
                            have hnb60 := NB109_101.out
                            have hnc60 := NB101_109.out
                            have hcz61_0 : wr.cell? ⟨gb109, 0, none⟩ = some (.int .i64 ((rd_T87 l0_3 x5_6).f0)) := (blk_cell BK109.out 0).trans rfl
                            have hcz61_1 : wr.cell? ⟨gb109, 1, none⟩ = some (.slice A108_1 ((rd_T87 l0_3 x5_6).f1).length c108_1) := (blk_cell BK109.out 1).trans rfl
                            have hfz61_0 := blk_frozen BK109.out 0
                            have hfz61_1 := blk_frozen BK109.out 1
                            try go_wp2
                            have n0_ := Aside0.mk (blk_drew BK101.out)
                            have n1_ := Aside0.mk (blk_drew BK109.out)
                            have n2_ := Aside0.mk (below_drew1 HB.out)
                            clear BK101
                            clear BK109
                            clear HB
                            have BK101 := n0_
                            have BK109 := n1_
                            have HB := n2_
                            clear n0_ n1_ n2_
                            have p110 : 0 ≤ (x7_8 : Int) := of_decide_eq_true (by first | (with_reducible assumption) | assumption)
                            have q110 : x7_8 < (((rd_T87 l0_3 x5_6).f1).length : Int) := of_decide_eq_true (by first | (with_reducible assumption) | assumption)
                            obtain ⟨ad110, e110, hx110_0⟩ := Kd.at_int HR108_1.out x7_8 p110 q110
                            have hw110_0 := hx110_0
                            cases e110
                            replace hx110_0 := (HB.out.cell (World.block_lt_of_cell? w _ hx110_0)).trans hx110_0
                            replace p110 := eq_true p110
                            replace q110 := eq_true q110
                            refine start_ (n := 8) (S := fun w' => w'.cell? ⟨gb101, 0, none⟩ = some (.slice A0_0 l0_0.length c0_0) ∧ w'.cell? ⟨gb101, 1, none⟩ = some (.slice A0_1 l0_1.length c0_1) ∧ w'.cell? ⟨gb101, 2, none⟩ = some (.int .i64 a0_2) ∧ w'.cell? ⟨gb101, 3, none⟩ = some (.slice (some ad108) l0_3.length c0_3) ∧ w'.cell? ⟨gb109, 0, none⟩ = some (.int .i64 ((rd_T87 l0_3 x5_6).f0)) ∧ w'.cell? ⟨gb109, 1, none⟩ = some (.slice (some ad110) ((rd_T87 l0_3 x5_6).f1).length c108_1) ∧ w'.cell? (ad110.add (x7_8).toNat) = some (.int .i64 (rd ((rd_T87 l0_3 x5_6).f1) x7_8))) (ds := []) #[false, false, false, false, false, false, false, false] (by kernel_rfl) rfl rfl ⟨(blk_cell BK101.out 0).trans rfl, (blk_cell BK101.out 1).trans rfl, (blk_cell BK101.out 2).trans rfl, (blk_cell BK101.out 3).trans rfl, (blk_cell BK109.out 0).trans rfl, (blk_cell BK109.out 1).trans rfl, ((HB.out.cell (World.block_lt_of_cell? w _ hw110_0)).trans hw110_0)⟩ (fun hHeld => ?_); refine with_tabW wickerref02_Check.tab26 wickerref02_Check.bits26 (fun HT_ HW_ => ?_)
                            generalize wr.drew = w62 at BK101 BK109 HB hx110_0 hHeld ⊢
                            refine pure_ (i := 1) (N := some 109) (v := ?_) (a' := ?_) #[false, true, false, false, false, false, false, false] rfl rfl (any_of HT_.out (by kernel_rfl)) (fun _ _ _ h => h) (Or.inl ⟨by rfl, ?_⟩) ?_ ?_
                            rotate_left
                            ·intro w'
                             go_simp
                             with_reducible rfl
                            rotate_left
                            ·simp only [Act.put, List.setIfInBounds_toArray, List.set_cons_zero, List.set_cons_succ, i64_w, i32_w]
                             rfl
                            refine pure_ (i := 3) (N := some 111) (v := ?_) (a' := ?_) #[false, true, false, true, false, false, false, false] rfl rfl (any_of HT_.out (by kernel_rfl)) (fun _ _ _ h => h) (Or.inl ⟨by rfl, ?_⟩) ?_ ?_
                            rotate_left
                            ·intro w'
                             go_simp
                             with_reducible rfl
                            rotate_left
                            ·simp only [Act.put, List.setIfInBounds_toArray, List.set_cons_zero, List.set_cons_succ, i64_w, i32_w]
                             rfl
                            refine take_ (i := 0) (N := some 108) (v := ?_) (a' := ?_) #[true, true, false, true, false, false, false, false] rfl rfl (take_ofW HT_.out HW_.out (by kernel_rfl)) (fun _ _ _ h => h) (Or.inl ⟨by rfl, ?_⟩) hHeld ?_ ?_
                            rotate_left
                            ·rintro w' ⟨s0, s1, s2, s3, s4, s5, s6⟩
                             go_simp
                             with_reducible rfl
                            rotate_left
                            ·simp only [Act.put, List.setIfInBounds_toArray, List.set_cons_zero, List.set_cons_succ, i64_w, i32_w]
                             rfl
                            refine take_ (i := 2) (N := some 110) (v := ?_) (a' := ?_) #[true, true, true, true, false, false, false, false] rfl rfl (take_ofW HT_.out HW_.out (by kernel_rfl)) (fun _ _ _ h => h) (Or.inl ⟨by rfl, ?_⟩) hHeld ?_ ?_
                            rotate_left
                            ·rintro w' ⟨s0, s1, s2, s3, s4, s5, s6⟩
                             go_simp
                             with_reducible rfl
                            rotate_left
                            ·simp only [Act.put, List.setIfInBounds_toArray, List.set_cons_zero, List.set_cons_succ, i64_w, i32_w]
                             rfl
                            refine pure_ (i := 4) (N := some 112) (v := ?_) (a' := ?_) #[true, true, true, true, true, false, false, false] rfl rfl (any_of HT_.out (by kernel_rfl)) (fun _ _ _ h => h) (Or.inl ⟨by rfl, ?_⟩) ?_ ?_
                            rotate_left
                            ·intro w'
                             go_simp
                             with_reducible rfl
                            rotate_left
                            ·simp only [Act.put, List.setIfInBounds_toArray, List.set_cons_zero, List.set_cons_succ, i64_w, i32_w]
                             rfl
                            refine take_ (i := 5) (N := some 113) (v := ?_) (a' := ?_) #[true, true, true, true, true, true, false, false] rfl rfl (take_ofW HT_.out HW_.out (by kernel_rfl)) (fun _ _ _ h => h) (Or.inl ⟨by rfl, ?_⟩) hHeld ?_ ?_
                            rotate_left
                            ·rintro w' ⟨s0, s1, s2, s3, s4, s5, s6⟩
                             go_simp
                             with_reducible rfl
                            rotate_left
                            ·simp only [Act.put, List.setIfInBounds_toArray, List.set_cons_zero, List.set_cons_succ, i64_w, i32_w]
                             rfl
                            refine one_ (i := 6) (N := some 114) #[true, true, true, true, true, true, true, false] rfl rfl (one_of HT_.out (by kernel_rfl)) (by decide) (fun K hK => ?_)
                            refine goes_ Tryd.func104 (by kernel_rfl) rfl #[.agg #[.slice A0_0 l0_0.length c0_0, .slice A0_1 l0_1.length c0_1, .int .i64 a0_2, .slice (some ad108) l0_3.length c0_3], .int .i64 (rd ((rd_T87 l0_3 x5_6).f1) x7_8)] (by rfl) rfl rfl (by (try simp only [List.map_toArray, List.map_cons, List.map_nil]); first | done | rfl | (simp only [List.length_drop, List.length_take]; rfl)) ?_
                            with_reducible refine (wickerref02_Has.calls _ _ l0_0 _ _ l0_1 a0_2 _ _ l0_3 (rd ((rd_T87 l0_3 x5_6).f1) x7_8) false _ ?side1 ?side2 ?side3 ?side4 ?side5 ?side6 A54.out).mono ?_
                            (case side1 => repeat (first | exact (Kd.C_below HR0_0.out HB.out) | (with_reducible refine Kd.C_alloc ?_ _) | (with_reducible refine Kd.C_drewN ?_ _) | (with_reducible refine Kd.C_drew ?_)))
                            (case side2 => exact HC0_0.out)
                            (case side3 => repeat (first | exact (Kd.C_below HR0_1.out HB.out) | (with_reducible refine Kd.C_alloc ?_ _) | (with_reducible refine Kd.C_drewN ?_ _) | (with_reducible refine Kd.C_drew ?_)))
                            (case side4 => exact HC0_1.out)
                            (case side5 => repeat (first | exact (Kd.C_below HR0_3.out HB.out) | (with_reducible refine Kd.C_alloc ?_ _) | (with_reducible refine Kd.C_drewN ?_ _) | (with_reducible refine Kd.C_drew ?_)))
                            (case side6 => exact HC0_3.out)
                            rintro e w63 ⟨rfl, hb⟩
                            refine ⟨_, rfl, ?_⟩
                            have n0_ := Aside0.mk (blk_below (g := gb101) (o := .cells #[.slice A0_0 l0_0.length c0_0, .slice A0_1 l0_1.length c0_1, .int .i64 a0_2, .slice (some ad108) l0_3.length c0_3] 63 (0, 0)) (by (with_reducible repeat (first | refine blk_drewN ?_ _ | refine blk_drew ?_ | refine blk_alloc ?_ _)); exact BK101.out) hb)
                            have n1_ := Aside0.mk (blk_below (g := gb109) (o := .cells #[.int .i64 ((rd_T87 l0_3 x5_6).f0), .slice (some ad110) ((rd_T87 l0_3 x5_6).f1).length c108_1] 87 (0, 0)) (by (with_reducible repeat (first | refine blk_drewN ?_ _ | refine blk_drew ?_ | refine blk_alloc ?_ _)); exact BK109.out) hb)
                            have n2_ := Aside0.mk (below_step (by repeat (first | (with_reducible first | exact HB.out | apply below_alloc | apply pw_below_drewN | apply below_drew1 | refine below_set ?_ GE101.out | refine below_set ?_ GE109.out) | exact HB.out)) hb)
                            clear BK101
                            clear BK109
                            clear HB
                            have BK101 := n0_
                            have BK109 := n1_
                            have HB := n2_
                            clear n0_ n1_ n2_
                            (try clear hb)
                            (try clear hb2)
                            (try clear hk)
                            (try clear hi)
                            refine hK.out _ _ ⟨(blk_cell BK101.out 0).trans rfl, (blk_cell BK101.out 1).trans rfl, (blk_cell BK101.out 2).trans rfl, (blk_cell BK101.out 3).trans rfl, (blk_cell BK109.out 0).trans rfl, (blk_cell BK109.out 1).trans rfl, ((HB.out.cell (World.block_lt_of_cell? w _ hw110_0)).trans hw110_0)⟩ (fun hHeld => ?_)
                            clear hK K
                            refine norm_ (a' := ?_) ?_ ?_
                            rotate_left
                            ·show Act.put _ (some 114) _ = _
                             simp only [Act.put, List.setIfInBounds_toArray, List.set_cons_zero, List.set_cons_succ, i64_w, i32_w]
                             rfl
                            refine pure_ (i := 7) (N := some 115) (v := ?_) (a' := ?_) #[true, true, true, true, true, true, true, true] rfl rfl (any_of HT_.out (by kernel_rfl)) (fun _ _ _ h => h) (Or.inl ⟨by rfl, ?_⟩) ?_ ?_
                            rotate_left
                            ·intro w'
                             go_simp
                             with_reducible rfl
                            rotate_left
                            ·simp only [Act.put, List.setIfInBounds_toArray, List.set_cons_zero, List.set_cons_succ, i64_w, i32_w]
                             rfl
                            refine done_ (done_of HT_.out (by kernel_rfl)) ?_
                            try go_wp2
                            go_ret
                            exact ⟨by first | rfl | (simp [errW_none, errW_some] <;> rfl) | (simp [*, errW_none, errW_some] <;> rfl), by repeat (first | (with_reducible first | exact HB.out | apply below_alloc | apply pw_below_drewN | apply below_drew1 | refine below_set ?_ GE101.out | refine below_set ?_ GE109.out) | exact HB.out)⟩
                          ·rw [if_neg c53] at H
                           exact absurd H (by simp)
                         ·rw [if_neg c52] at H
                          have c52b0 : decide (x7_8 < (((rd_T87 l0_3 x5_6).f1).length : Int)) = false := decide_eq_false c52
                          clear c52
                          by_cases c64 : (((rd_T87 l0_3 x5_6).f1).length : Int) > 64
                          ·rw [if_pos c64] at H
                           have c64b0 : decide (64 < (((rd_T87 l0_3 x5_6).f1).length : Int)) = true := decide_eq_true c64
                           have c64b1 : decide (64 < ((rd_T87 l0_3 x5_6).f1).length) = true := decide_eq_true (by omega)
                           clear c64
                           obtain rfl := Option.some.inj H
                           have hnb65 := NB109_101.out
                           have hnc65 := NB101_109.out
                           have hcz66_0 : wr.cell? ⟨gb109, 0, none⟩ = some (.int .i64 ((rd_T87 l0_3 x5_6).f0)) := (blk_cell BK109.out 0).trans rfl
                           have hcz66_1 : wr.cell? ⟨gb109, 1, none⟩ = some (.slice A108_1 ((rd_T87 l0_3 x5_6).f1).length c108_1) := (blk_cell BK109.out 1).trans rfl
                           have hfz66_0 := blk_frozen BK109.out 0
                           have hfz66_1 := blk_frozen BK109.out 1
                           go_wp2
                           go_ret
                           exact ⟨by first | rfl | (simp [errW_none, errW_some] <;> rfl) | (simp [*, errW_none, errW_some] <;> rfl), by repeat (first | (with_reducible first | exact HB.out | apply below_alloc | apply pw_below_drewN | apply below_drew1 | refine below_set ?_ GE101.out | refine below_set ?_ GE109.out) | exact HB.out)⟩
                          ·rw [if_neg c64] at H
                           have c64b0 : decide (64 < (((rd_T87 l0_3 x5_6).f1).length : Int)) = false := decide_eq_false c64
                           have c64b1 : decide (64 < ((rd_T87 l0_3 x5_6).f1).length) = false := decide_eq_false (by omega)
                           clear c64
                           have H' := Aside0.mk H
                           clear H
                           have hnb67 := NB109_101.out
                           have hnc67 := NB101_109.out
                           have hcz68_0 : wr.cell? ⟨gb109, 0, none⟩ = some (.int .i64 ((rd_T87 l0_3 x5_6).f0)) := (blk_cell BK109.out 0).trans rfl
                           have hcz68_1 : wr.cell? ⟨gb109, 1, none⟩ = some (.slice A108_1 ((rd_T87 l0_3 x5_6).f1).length c108_1) := (blk_cell BK109.out 1).trans rfl
                           have hfz68_0 := blk_frozen BK109.out 0
                           have hfz68_1 := blk_frozen BK109.out 1
                           go_wp2
                           go_roundg k8
                           case measure => have := HJ1.out; have := HK2.out; have := HK3.out; have := HJ24.out; have := HJ32.out; have := HK6.out; have := HJ39.out; have := HK8.out; omega
                           case rel => exact ⟨(wrap64 (x5_6 + 1)), (by first | rfl | (simp; done) | (simp [*]; done)), H', ⟨by have := HJ1.out; have := HK2.out; have := HK3.out; have := HJ24.out; have := HJ32.out; have := HK6.out; have := HJ39.out; have := HK8.out; omega⟩, ⟨by (with_reducible repeat (first | refine blk_drewN ?_ _ | refine blk_drew ?_ | refine blk_alloc ?_ _)); exact BK101.out⟩, ⟨by repeat (first | (with_reducible first | exact HB.out | apply below_alloc | apply pw_below_drewN | apply below_drew1 | refine below_set ?_ GE101.out | refine below_set ?_ GE109.out) | exact HB.out)⟩⟩
                   ·rw [if_neg c39] at H
                    exact absurd H (by simp)
                  ·rw [if_neg c38] at H
                   have c38b0 : decide (x5_6 < (l0_3.length : Int)) = false := decide_eq_false c38
                   clear c38
                   have H' := Aside0.mk H
                   clear H
                   have hcz69_0 : wr.cell? ⟨gb101, 0, none⟩ = some (.slice A0_0 l0_0.length c0_0) := (blk_cell BK101.out 0).trans rfl
                   have hcz69_1 : wr.cell? ⟨gb101, 1, none⟩ = some (.slice A0_1 l0_1.length c0_1) := (blk_cell BK101.out 1).trans rfl
                   have hcz69_2 : wr.cell? ⟨gb101, 2, none⟩ = some (.int .i64 a0_2) := (blk_cell BK101.out 2).trans rfl
                   have hcz69_3 : wr.cell? ⟨gb101, 3, none⟩ = some (.slice A0_3 l0_3.length c0_3) := (blk_cell BK101.out 3).trans rfl
                   have hfz69_0 := blk_frozen BK101.out 0
                   have hfz69_1 := blk_frozen BK101.out 1
                   have hfz69_2 := blk_frozen BK101.out 2
                   have hfz69_3 := blk_frozen BK101.out 3
                   go_wp2
                   go_loopg [8] k6 (fun kq v8 w' => ∃ (x8_7 : Int), v8 = .int .i64 x8_7 ∧ Aside0 (wickerref02_Check.l4 kq x8_7 l0_0 l0_1 a0_2 l0_3 = some r) ∧ Aside0 (kq ≤ k6) ∧ Aside0 (w'.heap[gb101]? = some (.cells #[(.slice A0_0 l0_0.length c0_0), (.slice A0_1 l0_1.length c0_1), .int .i64 a0_2, (.slice A0_3 l0_3.length c0_3)] 63 (0, 0))) ∧ Aside0 (Below w.heap.size w w'))
                   case atStart => exact ⟨(0), (by first | rfl | (simp; done) | (simp [*]; done)), H', ⟨Nat.le_refl _⟩, ⟨by (with_reducible repeat (first | refine blk_drewN ?_ _ | refine blk_drew ?_ | refine blk_alloc ?_ _)); exact BK101.out⟩, ⟨by repeat (first | (with_reducible first | exact HB.out | apply below_alloc | apply pw_below_drewN | apply below_drew1 | refine below_set ?_ GE101.out) | exact HB.out)⟩⟩
                   case round =>
                    clear H'
                    try clear c1
                    try clear p1
                    try clear q1
                    try clear hx1
                    try clear c2
                    try clear p2
                    try clear c3
                    try clear c4
                    try clear c4b0
                    try clear c4b1
                    try clear c5
                    try clear c6
                    try clear c6b0
                    try clear c6b1
                    try clear p6
                    try clear c8
                    try clear c8b0
                    try clear c8b1
                    try clear c10
                    try clear p10
                    try clear q10
                    try clear hx10
                    try clear c11
                    try clear p11
                    try clear q11
                    try clear hx11
                    try clear c12
                    try clear c12b0
                    try clear c13
                    try clear c13b0
                    try clear c15
                    try clear c19
                    try clear c19b0
                    try clear c20
                    try clear c20b0
                    try clear c22
                    try clear c28
                    try clear c32
                    try clear c34
                    try clear c34b0
                    try clear c37
                    try clear c38
                    try clear c38b0
                    try clear c39
                    try clear c39b0
                    try clear c43
                    try clear c45
                    try clear c45b0
                    try clear c46
                    try clear c48
                    try clear c51
                    try clear c52
                    try clear c52b0
                    try clear c53
                    try clear c53b0
                    try clear c55
                    try clear c56
                    try clear c60
                    try clear c64
                    try clear c64b0
                    try clear c64b1
                    try clear p64
                    try clear c65
                    try clear c67
                    try clear hcz10_0
                    try clear hcz10_1
                    try clear hcz10_2
                    try clear hcz10_3
                    try clear hcz16_0
                    try clear hcz16_1
                    try clear hcz16_2
                    try clear hcz16_3
                    try clear hcz17_0
                    try clear hcz17_1
                    try clear hcz17_2
                    try clear hcz17_3
                    try clear hcz18_0
                    try clear hcz18_1
                    try clear hcz18_2
                    try clear hcz18_3
                    try clear hcz23_0
                    try clear hcz23_1
                    try clear hcz23_2
                    try clear hcz23_3
                    try clear hcz24_0
                    try clear hcz24_1
                    try clear hcz24_2
                    try clear hcz24_3
                    try clear hcz26_0
                    try clear hcz26_1
                    try clear hcz26_2
                    try clear hcz26_3
                    try clear hcz29_0
                    try clear hcz29_1
                    try clear hcz29_2
                    try clear hcz29_3
                    try clear hcz31_0
                    try clear hcz31_1
                    try clear hcz31_2
                    try clear hcz31_3
                    try clear hcz35_0
                    try clear hcz35_1
                    try clear hcz35_2
                    try clear hcz35_3
                    try clear hcz36_0
                    try clear hcz36_1
                    try clear hcz36_2
                    try clear hcz36_3
                    try clear hcz41_0
                    try clear hcz41_1
                    try clear hcz41_2
                    try clear hcz41_3
                    try clear hcz44_0
                    try clear hcz44_1
                    try clear hcz47_0
                    try clear hcz47_1
                    try clear hcz49_0
                    try clear hcz49_1
                    try clear hcz50_0
                    try clear hcz50_1
                    try clear hcz50_2
                    try clear hcz50_3
                    try clear hcz57_0
                    try clear hcz57_1
                    try clear hcz5_0
                    try clear hcz5_1
                    try clear hcz5_2
                    try clear hcz5_3
                    try clear hcz61_0
                    try clear hcz61_1
                    try clear hcz66_0
                    try clear hcz66_1
                    try clear hcz68_0
                    try clear hcz68_1
                    try clear hcz69_0
                    try clear hcz69_1
                    try clear hcz69_2
                    try clear hcz69_3
                    try clear hcz7_0
                    try clear hcz7_1
                    try clear hcz7_2
                    try clear hcz7_3
                    try clear hcz9_0
                    try clear hcz9_1
                    try clear hcz9_2
                    try clear hcz9_3
                    try clear hfz10_0
                    try clear hfz10_1
                    try clear hfz10_2
                    try clear hfz10_3
                    try clear hfz16_0
                    try clear hfz16_1
                    try clear hfz16_2
                    try clear hfz16_3
                    try clear hfz17_0
                    try clear hfz17_1
                    try clear hfz17_2
                    try clear hfz17_3
                    try clear hfz18_0
                    try clear hfz18_1
                    try clear hfz18_2
                    try clear hfz18_3
                    try clear hfz23_0
                    try clear hfz23_1
                    try clear hfz23_2
                    try clear hfz23_3
                    try clear hfz24_0
                    try clear hfz24_1
                    try clear hfz24_2
                    try clear hfz24_3
                    try clear hfz26_0
                    try clear hfz26_1
                    try clear hfz26_2
                    try clear hfz26_3
                    try clear hfz29_0
                    try clear hfz29_1
                    try clear hfz29_2
                    try clear hfz29_3
                    try clear hfz31_0
                    try clear hfz31_1
                    try clear hfz31_2
                    try clear hfz31_3
                    try clear hfz35_0
                    try clear hfz35_1
                    try clear hfz35_2
                    try clear hfz35_3
                    try clear hfz36_0
                    try clear hfz36_1
                    try clear hfz36_2
                    try clear hfz36_3
                    try clear hfz41_0
                    try clear hfz41_1
                    try clear hfz41_2
                    try clear hfz41_3
                    try clear hfz44_0
                    try clear hfz44_1
                    try clear hfz47_0
                    try clear hfz47_1
                    try clear hfz49_0
                    try clear hfz49_1
                    try clear hfz50_0
                    try clear hfz50_1
                    try clear hfz50_2
                    try clear hfz50_3
                    try clear hfz57_0
                    try clear hfz57_1
                    try clear hfz5_0
                    try clear hfz5_1
                    try clear hfz5_2
                    try clear hfz5_3
                    try clear hfz61_0
                    try clear hfz61_1
                    try clear hfz66_0
                    try clear hfz66_1
                    try clear hfz68_0
                    try clear hfz68_1
                    try clear hfz69_0
                    try clear hfz69_1
                    try clear hfz69_2
                    try clear hfz69_3
                    try clear hfz7_0
                    try clear hfz7_1
                    try clear hfz7_2
                    try clear hfz7_3
                    try clear hfz9_0
                    try clear hfz9_1
                    try clear hfz9_2
                    try clear hfz9_3
                    try clear hx102_0
                    try clear hx104_0
                    try clear hx108_0
                    try clear hx108_1
                    try clear hx110_0
                    try clear p1
                    try clear p10
                    try clear p102
                    try clear p104
                    try clear p108
                    try clear p110
                    try clear p2
                    try clear p6
                    try clear q1
                    try clear q10
                    try clear q102
                    try clear q104
                    try clear q108
                    try clear q110
                    obtain ⟨x8_7, rfl, HA, HK7, BK101, HB⟩ := hrel
                    cases gk with
                    | zero => exact absurd HA.out (by simp [wickerref02_Check.l4])
                    | succ k7 =>
                     have H := HA.out
                     clear HA
                     simp only [wickerref02_Check.l4] at H
                     by_cases c70 : x8_7 < (l0_3.length : Int)
                     ·rw [if_pos c70] at H
                      have c70b0 : decide (x8_7 < (l0_3.length : Int)) = true := decide_eq_true c70
                      clear c70
                      by_cases c71 : 0 ≤ x8_7
                      ·rw [if_pos c71] at H
                       have c71b0 : decide (0 ≤ x8_7) = true := decide_eq_true c71
                       clear c71
                       replace H := Option.bind_eq_some_iff.mp H
                       obtain ⟨t113, A720, H⟩ := H
                       replace H : (if t113 < x8_7 then (some 2) else (wickerref02_Check.l4 k7 (wrap64 (x8_7 + 1)) l0_0 l0_1 a0_2 l0_3)) = some r := H
                       have A72 := Aside0.mk A720
                       clear A720
                       by_cases c73 : t113 < x8_7
                       ·rw [if_pos c73] at H
                        have c73b0 : decide (t113 < x8_7) = true := decide_eq_true c73
                        clear c73
                        obtain rfl := Option.some.inj H
                        have hcz74_0 : wr.cell? ⟨gb101, 0, none⟩ = some (.slice A0_0 l0_0.length c0_0) := (blk_cell BK101.out 0).trans rfl
                        have hcz74_1 : wr.cell? ⟨gb101, 1, none⟩ = some (.slice A0_1 l0_1.length c0_1) := (blk_cell BK101.out 1).trans rfl
                        have hcz74_2 : wr.cell? ⟨gb101, 2, none⟩ = some (.int .i64 a0_2) := (blk_cell BK101.out 2).trans rfl
                        have hcz74_3 : wr.cell? ⟨gb101, 3, none⟩ = some (.slice A0_3 l0_3.length c0_3) := (blk_cell BK101.out 3).trans rfl
                        have hfz74_0 := blk_frozen BK101.out 0
                        have hfz74_1 := blk_frozen BK101.out 1
                        have hfz74_2 := blk_frozen BK101.out 2
                        have hfz74_3 := blk_frozen BK101.out 3
                        try go_wp2
                        have n0_ := Aside0.mk (blk_drew BK101.out)
                        have n1_ := Aside0.mk (below_drew1 HB.out)
                        clear BK101
                        clear HB
                        have BK101 := n0_
                        have HB := n1_
                        clear n0_ n1_
                        have p112 : 0 ≤ (x8_7 : Int) := of_decide_eq_true (by first | (with_reducible assumption) | assumption)
                        have q112 : x8_7 < (l0_3.length : Int) := of_decide_eq_true (by first | (with_reducible assumption) | assumption)
                        obtain ⟨ad112, A112_1, c112_1, e112, hx112_0, hx112_1, hl112_1, hi112_1⟩ := at_T87 HR0_3.out x8_7 p112 q112
                        have hw112_1 := hx112_1
                        have hw112_0 := hx112_0
                        cases e112
                        replace hx112_0 := (HB.out.cell (World.block_lt_of_cell? w _ hx112_0)).trans hx112_0
                        replace hx112_1 := (HB.out.cell (World.block_lt_of_cell? w _ hx112_1)).trans hx112_1
                        have HR112_1 := Aside0.mk hi112_1
                        have HC112_1 := Aside0.mk hl112_1
                        clear hi112_1 hl112_1
                        replace p112 := eq_true p112
                        replace q112 := eq_true q112
                        refine start_ (n := 10) (S := fun w' => w'.cell? ⟨gb101, 0, none⟩ = some (.slice A0_0 l0_0.length c0_0) ∧ w'.cell? ⟨gb101, 1, none⟩ = some (.slice A0_1 l0_1.length c0_1) ∧ w'.cell? ⟨gb101, 2, none⟩ = some (.int .i64 a0_2) ∧ w'.cell? ⟨gb101, 3, none⟩ = some (.slice (some ad112) l0_3.length c0_3) ∧ w'.cell? (ad112.add ((x8_7).toNat * 2)) = some (.int .i64 ((rd_T87 l0_3 x8_7).f0)) ∧ w'.cell? ⟨(ad112.add ((x8_7).toNat * 2)).block, (ad112.add ((x8_7).toNat * 2)).off + 1, none⟩ = some (.slice A112_1 ((rd_T87 l0_3 x8_7).f1).length c112_1)) (ds := []) #[false, false, false, false, false, false, false, false, false, false] (by kernel_rfl) rfl rfl ⟨(blk_cell BK101.out 0).trans rfl, (blk_cell BK101.out 1).trans rfl, (blk_cell BK101.out 2).trans rfl, (blk_cell BK101.out 3).trans rfl, ((HB.out.cell (World.block_lt_of_cell? w _ hw112_0)).trans hw112_0), ((HB.out.cell (World.block_lt_of_cell? w _ hw112_1)).trans hw112_1)⟩ (fun hHeld => ?_); refine with_tabW wickerref02_Check.tab33 wickerref02_Check.bits33 (fun HT_ HW_ => ?_)
                        generalize wr.drew = w75 at BK101 HB HR112_1 hx112_0 hx112_1 hHeld ⊢
                        refine pure_ (i := 0) (N := some 127) (v := ?_) (a' := ?_) #[true, false, false, false, false, false, false, false, false, false] rfl rfl (any_of HT_.out (by kernel_rfl)) (fun _ _ _ h => h) (Or.inl ⟨by rfl, ?_⟩) ?_ ?_
                        rotate_left
                        ·intro w'
                         go_simp
                         with_reducible rfl
                        rotate_left
                        ·simp only [Act.put, List.setIfInBounds_toArray, List.set_cons_zero, List.set_cons_succ, i64_w, i32_w]
                         rfl
                        refine pure_ (i := 2) (N := some 129) (v := ?_) (a' := ?_) #[true, false, true, false, false, false, false, false, false, false] rfl rfl (any_of HT_.out (by kernel_rfl)) (fun _ _ _ h => h) (Or.inl ⟨by rfl, ?_⟩) ?_ ?_
                        rotate_left
                        ·intro w'
                         go_simp
                         with_reducible rfl
                        rotate_left
                        ·simp only [Act.put, List.setIfInBounds_toArray, List.set_cons_zero, List.set_cons_succ, i64_w, i32_w]
                         rfl
                        refine pure_ (i := 4) (N := some 131) (v := ?_) (a' := ?_) #[true, false, true, false, true, false, false, false, false, false] rfl rfl (any_of HT_.out (by kernel_rfl)) (fun _ _ _ h => h) (Or.inl ⟨by rfl, ?_⟩) ?_ ?_
                        rotate_left
                        ·intro w'
                         go_simp
                         with_reducible rfl
                        rotate_left
                        ·simp only [Act.put, List.setIfInBounds_toArray, List.set_cons_zero, List.set_cons_succ, i64_w, i32_w]
                         rfl
                        refine pure_ (i := 8) (N := some 135) (v := ?_) (a' := ?_) #[true, false, true, false, true, false, false, false, true, false] rfl rfl (any_of HT_.out (by kernel_rfl)) (fun _ _ _ h => h) (Or.inl ⟨by rfl, ?_⟩) ?_ ?_
                        rotate_left
                        ·intro w'
                         go_simp
                         with_reducible rfl
                        rotate_left
                        ·simp only [Act.put, List.setIfInBounds_toArray, List.set_cons_zero, List.set_cons_succ, i64_w, i32_w]
                         rfl
                        refine take_ (i := 1) (N := some 128) (v := ?_) (a' := ?_) #[true, true, true, false, true, false, false, false, true, false] rfl rfl (take_ofW HT_.out HW_.out (by kernel_rfl)) (fun _ _ _ h => h) (Or.inl ⟨by rfl, ?_⟩) hHeld ?_ ?_
                        rotate_left
                        ·rintro w' ⟨s0, s1, s2, s3, s4, s5⟩
                         go_simp
                         with_reducible rfl
                        rotate_left
                        ·simp only [Act.put, List.setIfInBounds_toArray, List.set_cons_zero, List.set_cons_succ, i64_w, i32_w]
                         rfl
                        refine take_ (i := 3) (N := some 130) (v := ?_) (a' := ?_) #[true, true, true, true, true, false, false, false, true, false] rfl rfl (take_ofW HT_.out HW_.out (by kernel_rfl)) (fun _ _ _ h => h) (Or.inl ⟨by rfl, ?_⟩) hHeld ?_ ?_
                        rotate_left
                        ·rintro w' ⟨s0, s1, s2, s3, s4, s5⟩
                         go_simp
                         with_reducible rfl
                        rotate_left
                        ·simp only [Act.put, List.setIfInBounds_toArray, List.set_cons_zero, List.set_cons_succ, i64_w, i32_w]
                         rfl
                        refine pure_ (i := 5) (N := some 132) (v := ?_) (a' := ?_) #[true, true, true, true, true, true, false, false, true, false] rfl rfl (any_of HT_.out (by kernel_rfl)) (fun _ _ _ h => h) (Or.inl ⟨by rfl, ?_⟩) ?_ ?_
                        rotate_left
                        ·intro w'
                         go_simp
                         with_reducible rfl
                        rotate_left
                        ·simp only [Act.put, List.setIfInBounds_toArray, List.set_cons_zero, List.set_cons_succ, i64_w, i32_w]
                         rfl
                        refine take_ (i := 6) (N := some 133) (v := ?_) (a' := ?_) #[true, true, true, true, true, true, true, false, true, false] rfl rfl (take_ofW HT_.out HW_.out (by kernel_rfl)) (fun _ _ _ h => h) (Or.inl ⟨by rfl, ?_⟩) hHeld ?_ ?_
                        rotate_left
                        ·rintro w' ⟨s0, s1, s2, s3, s4, s5⟩
                         go_simp
                         with_reducible rfl
                        rotate_left
                        ·simp only [Act.put, List.setIfInBounds_toArray, List.set_cons_zero, List.set_cons_succ, i64_w, i32_w]
                         rfl
                        refine one_ (i := 7) (N := some 134) #[true, true, true, true, true, true, true, true, true, false] rfl rfl (one_of HT_.out (by kernel_rfl)) (by decide) (fun K hK => ?_)
                        refine goes_ Tryd.func107 (by kernel_rfl) rfl #[.slice (some ad112) l0_3.length c0_3, .agg #[.int .i64 ((rd_T87 l0_3 x8_7).f0), .slice A112_1 ((rd_T87 l0_3 x8_7).f1).length c112_1]] (by rfl) rfl rfl (by (try simp only [List.map_toArray, List.map_cons, List.map_nil]); first | done | rfl | (simp only [List.length_drop, List.length_take]; rfl)) ?_
                        with_reducible refine (wickerref02_Find.calls k7 _ _ l0_3 ((rd_T87 l0_3 x8_7).f0) _ _ ((rd_T87 l0_3 x8_7).f1) t113 _ ?side1 ?side2 ?side3 ?side4 A72.out).mono ?_
                        (case side1 => repeat (first | exact (Kd.C_below HR0_3.out HB.out) | (with_reducible refine Kd.C_alloc ?_ _) | (with_reducible refine Kd.C_drewN ?_ _) | (with_reducible refine Kd.C_drew ?_)))
                        (case side2 => exact HC0_3.out)
                        (case side3 => repeat (first | exact (Kd.C_below HR112_1.out HB.out) | (with_reducible refine Kd.C_alloc ?_ _) | (with_reducible refine Kd.C_drewN ?_ _) | (with_reducible refine Kd.C_drew ?_)))
                        (case side4 => exact HC112_1.out)
                        rintro e w76 ⟨rfl, hb⟩
                        refine ⟨_, rfl, ?_⟩
                        have n0_ := Aside0.mk (blk_below (g := gb101) (o := .cells #[.slice A0_0 l0_0.length c0_0, .slice A0_1 l0_1.length c0_1, .int .i64 a0_2, .slice (some ad112) l0_3.length c0_3] 63 (0, 0)) (by (with_reducible repeat (first | refine blk_drewN ?_ _ | refine blk_drew ?_ | refine blk_alloc ?_ _)); exact BK101.out) hb)
                        have n1_ := Aside0.mk (below_step (by repeat (first | (with_reducible first | exact HB.out | apply below_alloc | apply pw_below_drewN | apply below_drew1 | refine below_set ?_ GE101.out) | exact HB.out)) hb)
                        clear BK101
                        clear HB
                        have BK101 := n0_
                        have HB := n1_
                        clear n0_ n1_
                        (try clear hb)
                        (try clear hb2)
                        (try clear hk)
                        (try clear hi)
                        refine hK.out _ _ ⟨(blk_cell BK101.out 0).trans rfl, (blk_cell BK101.out 1).trans rfl, (blk_cell BK101.out 2).trans rfl, (blk_cell BK101.out 3).trans rfl, ((HB.out.cell (World.block_lt_of_cell? w _ hw112_0)).trans hw112_0), ((HB.out.cell (World.block_lt_of_cell? w _ hw112_1)).trans hw112_1)⟩ (fun hHeld => ?_)
                        clear hK K
                        refine norm_ (a' := ?_) ?_ ?_
                        rotate_left
                        ·show Act.put _ (some 134) _ = _
                         simp only [Act.put, List.setIfInBounds_toArray, List.set_cons_zero, List.set_cons_succ, i64_w, i32_w]
                         rfl
                        refine pure_ (i := 9) (N := some 136) (v := ?_) (a' := ?_) #[true, true, true, true, true, true, true, true, true, true] rfl rfl (any_of HT_.out (by kernel_rfl)) (fun _ _ _ h => h) (Or.inl ⟨by rfl, ?_⟩) ?_ ?_
                        rotate_left
                        ·intro w'
                         go_simp
                         with_reducible rfl
                        rotate_left
                        ·simp only [Act.put, List.setIfInBounds_toArray, List.set_cons_zero, List.set_cons_succ, i64_w, i32_w]
                         rfl
                        refine done_ (done_of HT_.out (by kernel_rfl)) ?_
                        try go_wp2
                        go_ret
                        exact ⟨by first | rfl | (simp [errW_none, errW_some] <;> rfl) | (simp [*, errW_none, errW_some] <;> rfl), by repeat (first | (with_reducible first | exact HB.out | apply below_alloc | apply pw_below_drewN | apply below_drew1 | refine below_set ?_ GE101.out) | exact HB.out)⟩
                       ·rw [if_neg c73] at H
                        have c73b0 : decide (t113 < x8_7) = false := decide_eq_false c73
                        clear c73
                        have H' := Aside0.mk H
                        clear H
                        have hcz77_0 : wr.cell? ⟨gb101, 0, none⟩ = some (.slice A0_0 l0_0.length c0_0) := (blk_cell BK101.out 0).trans rfl
                        have hcz77_1 : wr.cell? ⟨gb101, 1, none⟩ = some (.slice A0_1 l0_1.length c0_1) := (blk_cell BK101.out 1).trans rfl
                        have hcz77_2 : wr.cell? ⟨gb101, 2, none⟩ = some (.int .i64 a0_2) := (blk_cell BK101.out 2).trans rfl
                        have hcz77_3 : wr.cell? ⟨gb101, 3, none⟩ = some (.slice A0_3 l0_3.length c0_3) := (blk_cell BK101.out 3).trans rfl
                        have hfz77_0 := blk_frozen BK101.out 0
                        have hfz77_1 := blk_frozen BK101.out 1
                        have hfz77_2 := blk_frozen BK101.out 2
                        have hfz77_3 := blk_frozen BK101.out 3
                        try go_wp2
                        have n0_ := Aside0.mk (blk_drew BK101.out)
                        have n1_ := Aside0.mk (below_drew1 HB.out)
                        clear BK101
                        clear HB
                        have BK101 := n0_
                        have HB := n1_
                        clear n0_ n1_
                        have p112 : 0 ≤ (x8_7 : Int) := of_decide_eq_true (by first | (with_reducible assumption) | assumption)
                        have q112 : x8_7 < (l0_3.length : Int) := of_decide_eq_true (by first | (with_reducible assumption) | assumption)
                        obtain ⟨ad112, A112_1, c112_1, e112, hx112_0, hx112_1, hl112_1, hi112_1⟩ := at_T87 HR0_3.out x8_7 p112 q112
                        have hw112_1 := hx112_1
                        have hw112_0 := hx112_0
                        cases e112
                        replace hx112_0 := (HB.out.cell (World.block_lt_of_cell? w _ hx112_0)).trans hx112_0
                        replace hx112_1 := (HB.out.cell (World.block_lt_of_cell? w _ hx112_1)).trans hx112_1
                        have HR112_1 := Aside0.mk hi112_1
                        have HC112_1 := Aside0.mk hl112_1
                        clear hi112_1 hl112_1
                        replace p112 := eq_true p112
                        replace q112 := eq_true q112
                        refine start_ (n := 10) (S := fun w' => w'.cell? ⟨gb101, 0, none⟩ = some (.slice A0_0 l0_0.length c0_0) ∧ w'.cell? ⟨gb101, 1, none⟩ = some (.slice A0_1 l0_1.length c0_1) ∧ w'.cell? ⟨gb101, 2, none⟩ = some (.int .i64 a0_2) ∧ w'.cell? ⟨gb101, 3, none⟩ = some (.slice (some ad112) l0_3.length c0_3) ∧ w'.cell? (ad112.add ((x8_7).toNat * 2)) = some (.int .i64 ((rd_T87 l0_3 x8_7).f0)) ∧ w'.cell? ⟨(ad112.add ((x8_7).toNat * 2)).block, (ad112.add ((x8_7).toNat * 2)).off + 1, none⟩ = some (.slice A112_1 ((rd_T87 l0_3 x8_7).f1).length c112_1)) (ds := []) #[false, false, false, false, false, false, false, false, false, false] (by kernel_rfl) rfl rfl ⟨(blk_cell BK101.out 0).trans rfl, (blk_cell BK101.out 1).trans rfl, (blk_cell BK101.out 2).trans rfl, (blk_cell BK101.out 3).trans rfl, ((HB.out.cell (World.block_lt_of_cell? w _ hw112_0)).trans hw112_0), ((HB.out.cell (World.block_lt_of_cell? w _ hw112_1)).trans hw112_1)⟩ (fun hHeld => ?_); refine with_tabW wickerref02_Check.tab33 wickerref02_Check.bits33 (fun HT_ HW_ => ?_)
                        generalize wr.drew = w78 at BK101 HB HR112_1 hx112_0 hx112_1 hHeld ⊢
                        refine pure_ (i := 0) (N := some 127) (v := ?_) (a' := ?_) #[true, false, false, false, false, false, false, false, false, false] rfl rfl (any_of HT_.out (by kernel_rfl)) (fun _ _ _ h => h) (Or.inl ⟨by rfl, ?_⟩) ?_ ?_
                        rotate_left
                        ·intro w'
                         go_simp
                         with_reducible rfl
                        rotate_left
                        ·simp only [Act.put, List.setIfInBounds_toArray, List.set_cons_zero, List.set_cons_succ, i64_w, i32_w]
                         rfl
                        refine pure_ (i := 2) (N := some 129) (v := ?_) (a' := ?_) #[true, false, true, false, false, false, false, false, false, false] rfl rfl (any_of HT_.out (by kernel_rfl)) (fun _ _ _ h => h) (Or.inl ⟨by rfl, ?_⟩) ?_ ?_
                        rotate_left
                        ·intro w'
                         go_simp
                         with_reducible rfl
                        rotate_left
                        ·simp only [Act.put, List.setIfInBounds_toArray, List.set_cons_zero, List.set_cons_succ, i64_w, i32_w]
                         rfl
                        refine pure_ (i := 4) (N := some 131) (v := ?_) (a' := ?_) #[true, false, true, false, true, false, false, false, false, false] rfl rfl (any_of HT_.out (by kernel_rfl)) (fun _ _ _ h => h) (Or.inl ⟨by rfl, ?_⟩) ?_ ?_
                        rotate_left
                        ·intro w'
                         go_simp
                         with_reducible rfl
                        rotate_left
                        ·simp only [Act.put, List.setIfInBounds_toArray, List.set_cons_zero, List.set_cons_succ, i64_w, i32_w]
                         rfl
                        refine pure_ (i := 8) (N := some 135) (v := ?_) (a' := ?_) #[true, false, true, false, true, false, false, false, true, false] rfl rfl (any_of HT_.out (by kernel_rfl)) (fun _ _ _ h => h) (Or.inl ⟨by rfl, ?_⟩) ?_ ?_
                        rotate_left
                        ·intro w'
                         go_simp
                         with_reducible rfl
                        rotate_left
                        ·simp only [Act.put, List.setIfInBounds_toArray, List.set_cons_zero, List.set_cons_succ, i64_w, i32_w]
                         rfl
                        refine take_ (i := 1) (N := some 128) (v := ?_) (a' := ?_) #[true, true, true, false, true, false, false, false, true, false] rfl rfl (take_ofW HT_.out HW_.out (by kernel_rfl)) (fun _ _ _ h => h) (Or.inl ⟨by rfl, ?_⟩) hHeld ?_ ?_
                        rotate_left
                        ·rintro w' ⟨s0, s1, s2, s3, s4, s5⟩
                         go_simp
                         with_reducible rfl
                        rotate_left
                        ·simp only [Act.put, List.setIfInBounds_toArray, List.set_cons_zero, List.set_cons_succ, i64_w, i32_w]
                         rfl
                        refine take_ (i := 3) (N := some 130) (v := ?_) (a' := ?_) #[true, true, true, true, true, false, false, false, true, false] rfl rfl (take_ofW HT_.out HW_.out (by kernel_rfl)) (fun _ _ _ h => h) (Or.inl ⟨by rfl, ?_⟩) hHeld ?_ ?_
                        rotate_left
                        ·rintro w' ⟨s0, s1, s2, s3, s4, s5⟩
                         go_simp
                         with_reducible rfl
                        rotate_left
                        ·simp only [Act.put, List.setIfInBounds_toArray, List.set_cons_zero, List.set_cons_succ, i64_w, i32_w]
                         rfl
                        refine pure_ (i := 5) (N := some 132) (v := ?_) (a' := ?_) #[true, true, true, true, true, true, false, false, true, false] rfl rfl (any_of HT_.out (by kernel_rfl)) (fun _ _ _ h => h) (Or.inl ⟨by rfl, ?_⟩) ?_ ?_
                        rotate_left
                        ·intro w'
                         go_simp
                         with_reducible rfl
                        rotate_left
                        ·simp only [Act.put, List.setIfInBounds_toArray, List.set_cons_zero, List.set_cons_succ, i64_w, i32_w]
                         rfl
                        refine take_ (i := 6) (N := some 133) (v := ?_) (a' := ?_) #[true, true, true, true, true, true, true, false, true, false] rfl rfl (take_ofW HT_.out HW_.out (by kernel_rfl)) (fun _ _ _ h => h) (Or.inl ⟨by rfl, ?_⟩) hHeld ?_ ?_
                        rotate_left
                        ·rintro w' ⟨s0, s1, s2, s3, s4, s5⟩
                         go_simp
                         with_reducible rfl
                        rotate_left
                        ·simp only [Act.put, List.setIfInBounds_toArray, List.set_cons_zero, List.set_cons_succ, i64_w, i32_w]
                         rfl
                        refine one_ (i := 7) (N := some 134) #[true, true, true, true, true, true, true, true, true, false] rfl rfl (one_of HT_.out (by kernel_rfl)) (by decide) (fun K hK => ?_)
                        refine goes_ Tryd.func107 (by kernel_rfl) rfl #[.slice (some ad112) l0_3.length c0_3, .agg #[.int .i64 ((rd_T87 l0_3 x8_7).f0), .slice A112_1 ((rd_T87 l0_3 x8_7).f1).length c112_1]] (by rfl) rfl rfl (by (try simp only [List.map_toArray, List.map_cons, List.map_nil]); first | done | rfl | (simp only [List.length_drop, List.length_take]; rfl)) ?_
                        with_reducible refine (wickerref02_Find.calls k7 _ _ l0_3 ((rd_T87 l0_3 x8_7).f0) _ _ ((rd_T87 l0_3 x8_7).f1) t113 _ ?side1 ?side2 ?side3 ?side4 A72.out).mono ?_
                        (case side1 => repeat (first | exact (Kd.C_below HR0_3.out HB.out) | (with_reducible refine Kd.C_alloc ?_ _) | (with_reducible refine Kd.C_drewN ?_ _) | (with_reducible refine Kd.C_drew ?_)))
                        (case side2 => exact HC0_3.out)
                        (case side3 => repeat (first | exact (Kd.C_below HR112_1.out HB.out) | (with_reducible refine Kd.C_alloc ?_ _) | (with_reducible refine Kd.C_drewN ?_ _) | (with_reducible refine Kd.C_drew ?_)))
                        (case side4 => exact HC112_1.out)
                        rintro e w79 ⟨rfl, hb⟩
                        refine ⟨_, rfl, ?_⟩
                        have n0_ := Aside0.mk (blk_below (g := gb101) (o := .cells #[.slice A0_0 l0_0.length c0_0, .slice A0_1 l0_1.length c0_1, .int .i64 a0_2, .slice (some ad112) l0_3.length c0_3] 63 (0, 0)) (by (with_reducible repeat (first | refine blk_drewN ?_ _ | refine blk_drew ?_ | refine blk_alloc ?_ _)); exact BK101.out) hb)
                        have n1_ := Aside0.mk (below_step (by repeat (first | (with_reducible first | exact HB.out | apply below_alloc | apply pw_below_drewN | apply below_drew1 | refine below_set ?_ GE101.out) | exact HB.out)) hb)
                        clear BK101
                        clear HB
                        have BK101 := n0_
                        have HB := n1_
                        clear n0_ n1_
                        (try clear hb)
                        (try clear hb2)
                        (try clear hk)
                        (try clear hi)
                        refine hK.out _ _ ⟨(blk_cell BK101.out 0).trans rfl, (blk_cell BK101.out 1).trans rfl, (blk_cell BK101.out 2).trans rfl, (blk_cell BK101.out 3).trans rfl, ((HB.out.cell (World.block_lt_of_cell? w _ hw112_0)).trans hw112_0), ((HB.out.cell (World.block_lt_of_cell? w _ hw112_1)).trans hw112_1)⟩ (fun hHeld => ?_)
                        clear hK K
                        refine norm_ (a' := ?_) ?_ ?_
                        rotate_left
                        ·show Act.put _ (some 134) _ = _
                         simp only [Act.put, List.setIfInBounds_toArray, List.set_cons_zero, List.set_cons_succ, i64_w, i32_w]
                         rfl
                        refine pure_ (i := 9) (N := some 136) (v := ?_) (a' := ?_) #[true, true, true, true, true, true, true, true, true, true] rfl rfl (any_of HT_.out (by kernel_rfl)) (fun _ _ _ h => h) (Or.inl ⟨by rfl, ?_⟩) ?_ ?_
                        rotate_left
                        ·intro w'
                         go_simp
                         with_reducible rfl
                        rotate_left
                        ·simp only [Act.put, List.setIfInBounds_toArray, List.set_cons_zero, List.set_cons_succ, i64_w, i32_w]
                         rfl
                        refine done_ (done_of HT_.out (by kernel_rfl)) ?_
                        try go_wp2
                        go_roundg k7
                        case measure => have := HJ1.out; have := HK2.out; have := HK3.out; have := HJ24.out; have := HJ32.out; have := HK6.out; have := HK7.out; omega
                        case rel => exact ⟨(wrap64 (x8_7 + 1)), (by first | rfl | (simp; done) | (simp [*]; done)), H', ⟨by have := HJ1.out; have := HK2.out; have := HK3.out; have := HJ24.out; have := HJ32.out; have := HK6.out; have := HK7.out; omega⟩, ⟨by (with_reducible repeat (first | refine blk_drewN ?_ _ | refine blk_drew ?_ | refine blk_alloc ?_ _)); exact BK101.out⟩, ⟨by repeat (first | (with_reducible first | exact HB.out | apply below_alloc | apply pw_below_drewN | apply below_drew1 | refine below_set ?_ GE101.out) | exact HB.out)⟩⟩
                      ·rw [if_neg c71] at H
                       exact absurd H (by simp)
                     ·rw [if_neg c70] at H
                      have c70b0 : decide (x8_7 < (l0_3.length : Int)) = false := decide_eq_false c70
                      clear c70
                      obtain rfl := Option.some.inj H
                      have hcz80_0 : wr.cell? ⟨gb101, 0, none⟩ = some (.slice A0_0 l0_0.length c0_0) := (blk_cell BK101.out 0).trans rfl
                      have hcz80_1 : wr.cell? ⟨gb101, 1, none⟩ = some (.slice A0_1 l0_1.length c0_1) := (blk_cell BK101.out 1).trans rfl
                      have hcz80_2 : wr.cell? ⟨gb101, 2, none⟩ = some (.int .i64 a0_2) := (blk_cell BK101.out 2).trans rfl
                      have hcz80_3 : wr.cell? ⟨gb101, 3, none⟩ = some (.slice A0_3 l0_3.length c0_3) := (blk_cell BK101.out 3).trans rfl
                      have hfz80_0 := blk_frozen BK101.out 0
                      have hfz80_1 := blk_frozen BK101.out 1
                      have hfz80_2 := blk_frozen BK101.out 2
                      have hfz80_3 := blk_frozen BK101.out 3
                      go_wp2
                      go_ret
                      exact ⟨by first | rfl | (simp [errW_none, errW_some] <;> rfl) | (simp [*, errW_none, errW_some] <;> rfl), by repeat (first | (with_reducible first | exact HB.out | apply below_alloc | apply pw_below_drewN | apply below_drew1 | refine below_set ?_ GE101.out) | exact HB.out)⟩
end Go.Proofs.YtmdjmbdeeodehaaDoor.G
end
section
set_option linter.unusedVariables false
set_option linter.unusedSimpArgs false
namespace Go.Proofs.YtmdjmbdeeodehaaDoor.G
open Go Go.RowKit Go.Proofs.YtmdjmbdeeodehaaDoorW.PrintWords Go.Proofs.YtmdjmbdeeodehaaDoor.Pure
theorem rdS (l : List GRule) (i : Nat) (h : i < l.length) : rd_T87 (l.map ofR) (i : Int) = ofR l[i] := by
  rw [rd_T87, Int.toNat_natCast, List.getD_eq_getElem?_getD, List.getElem?_eq_getElem (by rw [List.length_map]; exact h)]
  simp
theorem rdB (l : List ByteArray) (i : Nat) (h : i < l.length) : rdOf ByteArray.empty l (i : Int) = l[i] := by
  rw [rdOf, Int.toNat_natCast, List.getD_eq_getElem?_getD, List.getElem?_eq_getElem h]; rfl
theorem succ64 {i : Nat} (h : i ≤ 1000000000) : wrap64 ((i : Int) + 1) = ((i + 1 : Nat) : Int) := by rw [w64 (by omega) (by omega)]; rfl
theorem nodup_take {α : Type} (l : List α) (i : Nat) (h : i < l.length) : (l.take (i + 1)).Nodup ↔ (l.take i).Nodup ∧ l[i] ∉ l.take i := by
  rw [List.take_succ_eq_append_getElem h, List.nodup_append]
  constructor
  · rintro ⟨h1, _, h3⟩
    exact ⟨h1, fun hm => h3 _ hm _ (by simp) rfl⟩
  · rintro ⟨h1, h2⟩
    refine ⟨h1, by simp, fun a ha b hb e => h2 ?_⟩
    simp at hb
    rw [← hb, ← e]; exact ha
theorem nodup_of_take {α : Type} {l : List α} (h : l.Nodup) (i : Nat) : (l.take i).Nodup := h.sublist (List.take_sublist i l)
theorem take_mem_idx {α : Type} {l : List α} {i : Nat} {x : α} : x ∈ l.take i ↔ ∃ j, ∃ h : j < l.length, j < i ∧ l[j] = x := by
  rw [List.mem_iff_getElem]
  constructor
  · rintro ⟨j, hj, e⟩
    rw [List.length_take] at hj
    exact ⟨j, by omega, by omega, by rw [← e, List.getElem_take]⟩
  · rintro ⟨j, h, hj, e⟩
    exact ⟨j, by rw [List.length_take]; omega, by rw [List.getElem_take]; exact e⟩
theorem same_l0 (a b : List Int) (ha : a.length ≤ 1000000) (hl : a.length = b.length) (x y : Int) : ∀ (d i : Nat), i + d = a.length → Ev (fun k => wickerref02_Same.l0 k (i : Int) x a y b) (decide (a.drop i = b.drop i)) := by
  intro d
  induction d with
  | zero =>
    intro i hi
    refine ev_nowS fun k => ?_
    rw [wickerref02_Same.l0, if_neg (by omega), List.drop_eq_nil_of_le (by omega), List.drop_eq_nil_of_le (by omega)]
    rfl
  | succ d ih =>
    intro i hi
    have h1 : i < a.length := by omega
    have h2 : i < b.length := by omega
    by_cases e : a[i] = b[i]
    · refine Ev.step (fun k => ?_) (Ev.eq (ih (i + 1) (by omega)) ?_)
      · rw [wickerref02_Same.l0, if_pos (by omega), if_pos (by omega), if_pos (by omega), rd_at a i h1, rd_at b i h2, if_pos e, succ64 (by omega)]
      · rw [List.drop_eq_getElem_cons h1, List.drop_eq_getElem_cons h2, decide_eq_decide, List.cons.injEq]
        exact ⟨fun h => ⟨e, h⟩, fun h => h.2⟩
    · refine ev_nowS fun k => ?_
      rw [wickerref02_Same.l0, if_pos (by omega), if_pos (by omega), if_pos (by omega), rd_at a i h1, rd_at b i h2, if_neg e, List.drop_eq_getElem_cons h1, List.drop_eq_getElem_cons h2, decide_eq_false (fun h => e (by injection h))]
theorem same_f (r s : GRule) (hr : r.f1.length ≤ 1000000) (hs : s.f1.length ≤ 1000000) : Ev (fun k => wickerref02_Same.f k r.f0 r.f1 s.f0 s.f1) (decide (r = s)) := by
  have hext : r = s ↔ r.f0 = s.f0 ∧ r.f1 = s.f1 := ⟨fun e => by rw [e]; exact ⟨rfl, rfl⟩, fun h => by cases r; cases s; simp only at h; rw [h.1, h.2]⟩
  unfold wickerref02_Same.f
  by_cases h0 : r.f0 = s.f0
  · refine Ev.pos h0 ?_
    by_cases hl : r.f1.length = s.f1.length
    · refine Ev.step (fun k => ?_) (Ev.eq (same_l0 r.f1 s.f1 hr hl r.f0 s.f0 r.f1.length 0 (by omega)) ?_)
      · rw [wickerref02_Same.j0, if_neg (by simp [hl])]; rfl
      · rw [List.drop_zero, List.drop_zero]; simp [hext, h0]
    · refine ev_nowS fun k => ?_
      rw [wickerref02_Same.j0, if_pos (by rw [bne_iff_ne]; omega)]
      simp [hext, h0]
      intro e; exact hl (by rw [e])
  · refine Ev.neg h0 (ev_nowS fun k => ?_)
    rw [wickerref02_Same.j0, if_pos rfl]
    simp [hext, h0]
def findG (r : GRule) : List GRule → Int → Int
  | [], _ => -1
  | x :: t, i => if x = r then i else findG r t (i + 1)
theorem ruleOk_len {r : GRule} (h : ruleOk r = true) : r.f1.length ≤ 1000000 := by
  simp only [ruleOk, Bool.and_eq_true, decide_eq_true_eq] at h
  exact h.1.2
theorem find_l0 (l : List GRule) (hn : l.length ≤ 1000000) (hok : l.all ruleOk = true) (r : GRule) (hr : r.f1.length ≤ 1000000) : ∀ (d i : Nat), i + d = l.length → Ev (fun k => wickerref02_Find.l0 k (l.map ofR) (i : Int) r.f0 r.f1) (findG r (l.drop i) (i : Int)) := by
  intro d
  induction d with
  | zero =>
    intro i hi
    refine ev_nowS fun k => ?_
    rw [wickerref02_Find.l0, List.length_map, if_neg (by omega), List.drop_eq_nil_of_le (by omega)]; rfl
  | succ d ih =>
    intro i hi
    have h1 : i < l.length := by omega
    have hs := same_f l[i] r (ruleOk_len (List.all_eq_true.1 hok _ (List.getElem_mem _))) hr
    refine Ev.step (f := fun k => (wickerref02_Same.f k l[i].f0 l[i].f1 r.f0 r.f1).bind fun t => if t = true then some (i : Int) else wickerref02_Find.l0 k (l.map ofR) ((i + 1 : Nat) : Int) r.f0 r.f1) (fun k => ?_) (Ev.bind hs ?_)
    · rw [wickerref02_Find.l0, List.length_map, if_pos (by omega), if_pos (by omega), rdS l i h1, succ64 (by omega)]; rfl
    · rw [List.drop_eq_getElem_cons h1, findG]
      by_cases e : l[i] = r
      · rw [if_pos e]; exact Ev.pos (decide_eq_true e) (Ev.now _)
      · rw [if_neg e]; exact Ev.neg (by rw [decide_eq_false e]; simp) (ih (i + 1) (by omega))
theorem find_f (l : List GRule) (hn : l.length ≤ 1000000) (hok : l.all ruleOk = true) (r : GRule) (hr : r.f1.length ≤ 1000000) : Ev (fun k => wickerref02_Find.f k (l.map ofR) r.f0 r.f1) (findG r l 0) := find_l0 l hn hok r hr l.length 0 (by omega)
theorem findG_lt (r : GRule) : ∀ (l : List GRule) (m i : Nat), (r ∈ l.take m → findG r l i < ((i + m : Nat) : Int)) ∧ (r ∈ l → r ∉ l.take m → ((i + m : Nat) : Int) ≤ findG r l i) := by
  intro l
  induction l with
  | nil => intro m i; simp
  | cons a l ih =>
    intro m i
    cases m with
    | zero =>
      refine ⟨by simp, fun h _ => ?_⟩
      rw [findG]
      by_cases e : a = r
      · rw [if_pos e]; omega
      · rw [if_neg e]
        have := (ih 0 (i + 1)).2 (by rcases List.mem_cons.1 h with h | h; exact absurd h.symm e; exact h) (by simp)
        have e2 : ((i : Int) + 1) = ((i + 1 : Nat) : Int) := by omega
        rw [e2]; omega
    | succ m =>
      have e2 : ((i : Int) + 1) = ((i + 1 : Nat) : Int) := by omega
      rw [findG, List.take_succ_cons, e2]
      by_cases e : a = r
      · rw [if_pos e]
        exact ⟨fun _ => by omega, fun _ hn => absurd (by rw [e]; simp) hn⟩
      · rw [if_neg e]
        obtain ⟨h1, h2⟩ := ih m (i + 1)
        refine ⟨fun h => ?_, fun h hn => ?_⟩
        · have := h1 (by rcases List.mem_cons.1 h with h | h; exact absurd h.symm e; exact h); omega
        · have := h2 (by rcases List.mem_cons.1 h with h | h; exact absurd h.symm e; exact h) (fun hm => hn (List.mem_cons_of_mem _ hm)); omega
theorem findG_take (l : List GRule) (i : Nat) (h : i < l.length) : findG l[i] l 0 < (i : Int) ↔ l[i] ∈ l.take i := by
  have hh := findG_lt l[i] l i 0
  rw [Nat.zero_add] at hh
  constructor
  · intro hlt
    apply Classical.byContradiction
    intro hn
    have := hh.2 (List.getElem_mem _) hn
    have e : findG l[i] l ((0 : Nat) : Int) = findG l[i] l 0 := rfl
    omega
  · intro hm; exact hh.1 hm
theorem twice_l1 (l : List ByteArray) (hn : l.length ≤ 1000000) (i : Nat) (hi : i < l.length) (R : Bool) (hno : l[i] ∉ l.take i → Ev (fun k => wickerref02_twice.l0 k l ((i + 1 : Nat) : Int)) R) (hyes : l[i] ∈ l.take i → R = true) :
    ∀ (d j : Nat), j + d = i → l[i] ∉ l.take j → Ev (fun k => wickerref02_twice.l1 k l (i : Int) (j : Int)) R := by
  intro d
  induction d with
  | zero =>
    intro j hj hm
    obtain rfl : j = i := by omega
    refine Ev.step (fun k => ?_) (hno hm)
    rw [wickerref02_twice.l1, if_neg (by omega), succ64 (by omega)]
  | succ d ih =>
    intro j hj hm
    have hjl : j < l.length := by omega
    by_cases e : l[i] = l[j]
    · rw [hyes (take_mem_idx.2 ⟨j, hjl, by omega, e.symm⟩)]
      refine ev_nowS fun k => ?_
      rw [wickerref02_twice.l1, if_pos (by omega), if_pos (by omega), if_pos (by omega), if_pos (by omega), if_pos (by omega), rdB l i hi, rdB l j hjl, if_pos (by rw [e])]
    · refine Ev.step (fun k => ?_) (ih (j + 1) (by omega) ?_)
      · rw [wickerref02_twice.l1, if_pos (by omega), if_pos (by omega), if_pos (by omega), if_pos (by omega), if_pos (by omega), rdB l i hi, rdB l j hjl, if_neg (fun h => e ((ba_list _ _).1 h)), succ64 (by omega)]
      · rw [List.take_succ_eq_append_getElem hjl, List.mem_append]
        rintro (h | h)
        · exact hm h
        · exact e (by simpa using h)
theorem twice_l0 (l : List ByteArray) (hn : l.length ≤ 1000000) : ∀ (d i : Nat), i + d = l.length → (l.take i).Nodup → Ev (fun k => wickerref02_twice.l0 k l (i : Int)) (!decide l.Nodup) := by
  intro d
  induction d with
  | zero =>
    intro i hi hd
    rw [List.take_of_length_le (by omega)] at hd
    refine ev_nowS fun k => ?_
    rw [wickerref02_twice.l0, if_neg (by omega)]; simp [hd]
  | succ d ih =>
    intro i hi hd
    have h1 : i < l.length := by omega
    refine Ev.step (fun k => ?_) (twice_l1 l hn i h1 (!decide l.Nodup) (fun h => ih (i + 1) (by omega) ((nodup_take l i h1).2 ⟨hd, h⟩)) (fun h => ?_) i 0 (by omega) (by simp))
    · rw [wickerref02_twice.l0, if_pos (by omega)]; rfl
    · have : ¬ l.Nodup := fun hN => ((nodup_take l i h1).1 (nodup_of_take hN _)).2 h
      simp [this]
theorem twice_f (l : List ByteArray) (hn : l.length ≤ 1000000) : Ev (fun k => wickerref02_twice.f k l) (!decide l.Nodup) := twice_l0 l hn l.length 0 (by omega) (by simp)
theorem refhas_f (l0 l1 : List ByteArray) (h1 : l1.length ≤ 1000000) (a2 : Int) (l3 : List RRule) (s : Int) : wickerref02_Has.f l0 l1 a2 l3 s = some (hasB l0.length l1.length s) := by
  unfold wickerref02_Has.f hasB
  rw [w64 (by omega) (by omega)]
  by_cases hs : s < 0
  · rw [if_pos (by omega), if_pos hs]
    congr 1
    by_cases h : (l1.length : Int) > -1 - s
    · rw [decide_eq_true (by omega), decide_eq_true (by omega)]
    · rw [decide_eq_false (by omega), decide_eq_false (by omega)]
  · rw [if_neg hs]
    by_cases h : s < (l0.length : Int)
    · rw [if_pos h, decide_eq_true (by omega), decide_eq_true h]
    · rw [if_neg h, decide_eq_false h]
section
variable (l0 l1 : List ByteArray) (a2 : Int) (l3 : List GRule) (h0 : l0.length ≤ 1000000) (h1 : l1.length ≤ 1000000) (hn : l3.length ≤ 1000000) (hok : l3.all ruleOk = true)
include h0 h1 hn hok
omit h0 h1 in
theorem check_l4 : ∀ (d i : Nat), i + d = l3.length → (l3.take i).Nodup → Ev (fun k => wickerref02_Check.l4 k (i : Int) l0 l1 a2 (l3.map ofR)) (if l3.Nodup then 0 else 2) := by
  intro d
  induction d with
  | zero =>
    intro i hi hd
    rw [List.take_of_length_le (by omega)] at hd
    rw [if_pos hd]
    refine ev_nowS fun k => ?_
    rw [wickerref02_Check.l4, List.length_map, if_neg (by omega)]
  | succ d ih =>
    intro i hi hd
    have hi1 : i < l3.length := by omega
    have hf := find_f l3 hn hok l3[i] (ruleOk_len (List.all_eq_true.1 hok _ (List.getElem_mem _)))
    refine Ev.step (f := fun k => (wickerref02_Find.f k (l3.map ofR) l3[i].f0 l3[i].f1).bind fun t => if t < (i : Int) then some 2 else wickerref02_Check.l4 k ((i + 1 : Nat) : Int) l0 l1 a2 (l3.map ofR)) (fun k => ?_) (Ev.bind hf ?_)
    · rw [wickerref02_Check.l4, List.length_map, if_pos (by omega), if_pos (by omega), rdS l3 i hi1, succ64 (by omega)]; rfl
    · by_cases e : l3[i] ∈ l3.take i
      · rw [if_neg (fun hN => ((nodup_take l3 i hi1).1 (nodup_of_take hN _)).2 e)]
        exact Ev.pos ((findG_take l3 i hi1).2 e) (Ev.now _)
      · exact Ev.neg (fun h => e ((findG_take l3 i hi1).1 h)) (ih (i + 1) (by omega) ((nodup_take l3 i hi1).2 ⟨hd, e⟩))
omit h0 in
theorem check_l3 (i : Nat) (hi : i < l3.length) (R : Int) (hbad : ¬ (l3[i].f1.all (hasB l0.length l1.length) = true) → R = 3) (hlong : l3[i].f1.all (hasB l0.length l1.length) = true → 64 < l3[i].f1.length → R = 5) (hgo : l3[i].f1.all (hasB l0.length l1.length) = true → ¬ 64 < l3[i].f1.length → Ev (fun k => wickerref02_Check.l2 k ((i + 1 : Nat) : Int) l0 l1 a2 (l3.map ofR)) R) :
    ∀ (d j : Nat), j + d = l3[i].f1.length → (l3[i].f1.take j).all (hasB l0.length l1.length) = true → Ev (fun k => wickerref02_Check.l3 k (i : Int) (j : Int) l0 l1 a2 (l3.map ofR) l3[i].f0 l3[i].f1) R := by
  have hl := ruleOk_len (List.all_eq_true.1 hok _ (List.getElem_mem hi))
  intro d
  induction d with
  | zero =>
    intro j hj ha
    rw [List.take_of_length_le (by omega)] at ha
    by_cases h64 : 64 < l3[i].f1.length
    · rw [hlong ha h64]
      refine ev_nowS fun k => ?_
      rw [wickerref02_Check.l3, if_neg (by omega), if_pos (by omega)]
    · refine Ev.step (fun k => ?_) (hgo ha h64)
      rw [wickerref02_Check.l3, if_neg (by omega), if_neg (by omega), succ64 (by omega)]
  | succ d ih =>
    intro j hj ha
    have hj1 : j < l3[i].f1.length := by omega
    by_cases hb : hasB l0.length l1.length l3[i].f1[j] = true
    · refine Ev.step (fun k => ?_) (ih (j + 1) (by omega) (by rw [List.take_succ_eq_append_getElem hj1, List.all_append, ha]; simp [hb]))
      rw [wickerref02_Check.l3, if_pos (by omega), if_pos (by omega), rd_at _ j hj1, refhas_f l0 l1 h1, Option.bind_some, if_pos hb, succ64 (by omega)]
    · rw [hbad (fun h => hb (List.all_eq_true.1 h _ (List.getElem_mem _)))]
      refine ev_nowS fun k => ?_
      rw [wickerref02_Check.l3, if_pos (by omega), if_pos (by omega), rd_at _ j hj1, refhas_f l0 l1 h1, Option.bind_some, if_neg hb]
omit h0 in
theorem check_l2 : ∀ (d i : Nat), i + d = l3.length → Ev (fun k => wickerref02_Check.l2 k (i : Int) l0 l1 a2 (l3.map ofR)) (match (l3.drop i).find? (fun r => decide (ruleC l0.length l1.length r ≠ 0)) with
    | some r => ruleC l0.length l1.length r
    | none => if l3.Nodup then 0 else 2) := by
  intro d
  induction d with
  | zero =>
    intro i hi
    rw [List.drop_eq_nil_of_le (by omega)]
    refine Ev.step (fun k => ?_) (check_l4 l0 l1 a2 l3 hn hok l3.length 0 (by omega) (by simp))
    rw [wickerref02_Check.l2, List.length_map, if_neg (by omega)]; rfl
  | succ d ih =>
    intro i hi
    have hi1 : i < l3.length := by omega
    rw [List.drop_eq_getElem_cons hi1, List.find?_cons]
    have key : ∀ b : Bool, b = decide (l3[i].f0 < 0 ∨ (l0.length : Int) ≤ l3[i].f0) → Ev (fun k => wickerref02_Check.j6 k (i : Int) b l0 l1 a2 (l3.map ofR) l3[i].f0 l3[i].f1) (match (match decide (ruleC l0.length l1.length l3[i] ≠ 0) with | true => some l3[i] | false => (l3.drop (i + 1)).find? (fun r => decide (ruleC l0.length l1.length r ≠ 0))) with
        | some r => ruleC l0.length l1.length r
        | none => if l3.Nodup then 0 else 2) := by
      intro b hb
      by_cases hL : l3[i].f0 < 0 ∨ (l0.length : Int) ≤ l3[i].f0
      · have e3 : ruleC l0.length l1.length l3[i] = 3 := by unfold ruleC; rw [if_pos (by rcases hL with h | h; exact .inl h; exact .inr (.inl h))]
        rw [show decide (ruleC l0.length l1.length l3[i] ≠ 0) = true by rw [e3]; rfl]
        simp only [e3]
        refine ev_nowS fun k => ?_
        rw [wickerref02_Check.j6, if_pos (by rw [hb, decide_eq_true hL])]
      · refine Ev.step (fun k => ?_) (check_l3 l0 l1 a2 l3 h1 hn hok i hi1 _ (fun hbad => ?_) (fun ha h64 => ?_) (fun ha h64 => ?_) l3[i].f1.length 0 (by omega) (by simp))
        · rw [wickerref02_Check.j6, if_neg (by rw [hb, decide_eq_false hL]; simp)]; rfl
        · have e3 : ruleC l0.length l1.length l3[i] = 3 := by unfold ruleC; rw [if_pos (.inr (.inr hbad))]
          rw [show decide (ruleC l0.length l1.length l3[i] ≠ 0) = true by rw [e3]; rfl]; simp only [e3]
        · have e5 : ruleC l0.length l1.length l3[i] = 5 := by unfold ruleC; rw [if_neg (fun h => h.elim (fun h => hL (.inl h)) (fun h => h.elim (fun h => hL (.inr h)) (fun h => h ha))), if_pos h64]
          rw [show decide (ruleC l0.length l1.length l3[i] ≠ 0) = true by rw [e5]; rfl]; simp only [e5]
        · have e0 : ruleC l0.length l1.length l3[i] = 0 := by unfold ruleC; rw [if_neg (fun h => h.elim (fun h => hL (.inl h)) (fun h => h.elim (fun h => hL (.inr h)) (fun h => h ha))), if_neg h64]
          rw [show decide (ruleC l0.length l1.length l3[i] ≠ 0) = false by rw [e0]; rfl]
          exact ih (i + 1) (by omega)
    by_cases hneg : l3[i].f0 < 0
    · refine Ev.step (fun k => ?_) (key true (by rw [decide_eq_true (.inl hneg)]))
      rw [wickerref02_Check.l2, List.length_map, if_pos (by omega), if_pos (by omega), rdS l3 i hi1]
      exact if_pos hneg
    · refine Ev.step (fun k => ?_) (key (decide (l3[i].f0 ≥ (l0.length : Int))) (by
        by_cases h : (l0.length : Int) ≤ l3[i].f0
        · rw [decide_eq_true (show l3[i].f0 ≥ (l0.length : Int) from h), decide_eq_true (.inr h)]
        · rw [decide_eq_false (show ¬ l3[i].f0 ≥ (l0.length : Int) from h), decide_eq_false (fun hh => hh.elim hneg h)]))
      rw [wickerref02_Check.l2, List.length_map, if_pos (by omega), if_pos (by omega), rdS l3 i hi1]
      exact if_neg hneg
end
theorem gram_bounds {l0 l1 : List ByteArray} {a2 : Int} {l3 : List GRule} (h : gramOk l0 l1 a2 l3 = true) : l0.length ≤ 1000000 ∧ l1.length ≤ 1000000 ∧ l3.length ≤ 1000000 ∧ (∀ s ∈ l0, s.size ≤ 1000000000) ∧ (∀ s ∈ l1, s.size ≤ 1000000000) ∧ symOk a2 = true ∧ l3.all ruleOk = true := by
  simp only [gramOk, Bool.and_eq_true, decide_eq_true_eq] at h
  exact ⟨h.1.1.1.1.1.1, h.1.1.1.1.1.2, h.1.1.1.1.2, fun s hs => of_decide_eq_true (List.all_eq_true.1 h.1.1.1.2 s hs), fun s hs => of_decide_eq_true (List.all_eq_true.1 h.1.1.2 s hs), h.1.2, h.2⟩
theorem all_drop_cons {l : List ByteArray} {p : ByteArray → Bool} {i : Nat} (h : i < l.length) : (l.take (i + 1)).all p = ((l.take i).all p && p l[i]) := by
  rw [List.take_succ_eq_append_getElem h, List.all_append]; simp
section
variable (l0 l1 : List ByteArray) (a2 : Int) (l3 : List GRule) (hg : gramOk l0 l1 a2 l3 = true)
include hg
theorem check_end (h0a : l0.all nmB = true) (h1a : l1.all mkB = true) :
    Ev (fun k => (wickerref02_twice.f k l0).bind fun t => if t = true then wickerref02_Check.j3 k true l0 l1 a2 (l3.map ofR) else (wickerref02_twice.f k l1).bind fun t => wickerref02_Check.j3 k t l0 l1 a2 (l3.map ofR))
      (if texC nmB l0 = 1 ∨ texC mkB l1 = 1 then 1 else if texC nmB l0 = 2 ∨ texC mkB l1 = 2 then 2 else if a2 < 0 ∨ (l0.length : Int) ≤ a2 then 3 else rulesC l0.length l1.length l3) := by
  obtain ⟨b0, b1, b3, s0, s1, _, hok⟩ := gram_bounds hg
  have c0 : texC nmB l0 = if l0.Nodup then 0 else 2 := by unfold texC; rw [if_pos h0a]
  have c1 : texC mkB l1 = if l1.Nodup then 0 else 2 := by unfold texC; rw [if_pos h1a]
  have n0 : ¬ (texC nmB l0 = 1 ∨ texC mkB l1 = 1) := by rw [c0, c1]; split <;> split <;> decide
  rw [if_neg n0]
  refine Ev.bind (twice_f l0 b0) ?_
  by_cases d0 : l0.Nodup
  · refine Ev.neg (by simp [d0]) (Ev.bind (twice_f l1 b1) ?_)
    by_cases d1 : l1.Nodup
    · rw [if_neg (by rw [c0, c1, if_pos d0, if_pos d1]; decide)]
      have go : Ev (fun k => wickerref02_Check.l2 k 0 l0 l1 a2 (l3.map ofR)) (rulesC l0.length l1.length l3) := check_l2 l0 l1 a2 l3 b1 b3 hok l3.length 0 (by omega)
      by_cases ha : a2 < 0
      · rw [if_pos (.inl ha)]
        refine Ev.step (f := fun k => wickerref02_Check.j4 k true l0 l1 a2 (l3.map ofR)) (fun k => ?_) (ev_nowS fun k => ?_)
        · rw [wickerref02_Check.j3, if_neg (by simp [d1]), if_pos ha]
        · rw [wickerref02_Check.j4, if_pos rfl]
      · by_cases hb : (l0.length : Int) ≤ a2
        · rw [if_pos (.inr hb)]
          refine Ev.step (f := fun k => wickerref02_Check.j4 k true l0 l1 a2 (l3.map ofR)) (fun k => ?_) (ev_nowS fun k => ?_)
          · rw [wickerref02_Check.j3, if_neg (by simp [d1]), if_neg ha, decide_eq_true (show a2 ≥ (l0.length : Int) from hb)]
          · rw [wickerref02_Check.j4, if_pos rfl]
        · rw [if_neg (by omega)]
          refine Ev.step (f := fun k => wickerref02_Check.j4 k false l0 l1 a2 (l3.map ofR)) (fun k => ?_) (Ev.step (fun k => ?_) go)
          · rw [wickerref02_Check.j3, if_neg (by simp [d1]), if_neg ha, decide_eq_false (show ¬ a2 ≥ (l0.length : Int) from hb)]
          · rw [wickerref02_Check.j4, if_neg (by simp)]
    · rw [if_pos (by rw [c0, c1, if_pos d0, if_neg d1]; decide)]
      refine ev_nowS fun k => ?_
      rw [wickerref02_Check.j3, if_pos (by simp [d1])]
  · rw [if_pos (by rw [c0, if_neg d0]; exact .inl rfl)]
    refine Ev.pos (by simp [d0]) (ev_nowS fun k => ?_)
    rw [wickerref02_Check.j3, if_pos rfl]
theorem check_l1 (h0a : l0.all nmB = true) : ∀ (d i : Nat), i + d = l1.length → (l1.take i).all mkB = true → Ev (fun k => wickerref02_Check.l1 k (i : Int) l0 l1 a2 (l3.map ofR))
      (if texC nmB l0 = 1 ∨ texC mkB l1 = 1 then 1 else if texC nmB l0 = 2 ∨ texC mkB l1 = 2 then 2 else if a2 < 0 ∨ (l0.length : Int) ≤ a2 then 3 else rulesC l0.length l1.length l3) := by
  have hb := gram_bounds hg
  intro d
  induction d with
  | zero =>
    intro i hi ha
    rw [List.take_of_length_le (by omega)] at ha
    refine Ev.step (fun k => ?_) (check_end l0 l1 a2 l3 hg h0a ha)
    rw [wickerref02_Check.l1, if_neg (by omega)]
  | succ d ih =>
    intro i hi ha
    have hi1 : i < l1.length := by omega
    by_cases hm : mkB l1[i] = true
    · refine Ev.step (fun k => ?_) (ih (i + 1) (by omega) (by rw [all_drop_cons hi1, ha, hm]; rfl))
      rw [wickerref02_Check.l1, if_pos (by omega), if_pos (by omega), rdB l1 i hi1, ref_mark_f, Option.bind_some, if_pos (show markL l1[i].data.toList = true from hm), succ64 (by omega)]
    · have : texC mkB l1 = 1 := by unfold texC; rw [if_neg (fun h => hm (List.all_eq_true.1 h _ (List.getElem_mem _)))]
      rw [if_pos (.inr this)]
      refine ev_nowS fun k => ?_
      rw [wickerref02_Check.l1, if_pos (by omega), if_pos (by omega), rdB l1 i hi1, ref_mark_f, Option.bind_some, if_neg (show ¬ markL l1[i].data.toList = true from hm)]
theorem check_l0 : ∀ (d i : Nat), i + d = l0.length → (l0.take i).all nmB = true → Ev (fun k => wickerref02_Check.l0 k (i : Int) l0 l1 a2 (l3.map ofR))
      (if texC nmB l0 = 1 ∨ texC mkB l1 = 1 then 1 else if texC nmB l0 = 2 ∨ texC mkB l1 = 2 then 2 else if a2 < 0 ∨ (l0.length : Int) ≤ a2 then 3 else rulesC l0.length l1.length l3) := by
  have hb := gram_bounds hg
  intro d
  induction d with
  | zero =>
    intro i hi ha
    rw [List.take_of_length_le (by omega)] at ha
    refine Ev.step (fun k => ?_) (check_l1 l0 l1 a2 l3 hg ha l1.length 0 (by omega) (by simp))
    rw [wickerref02_Check.l0, if_neg (by omega)]; rfl
  | succ d ih =>
    intro i hi ha
    have hi1 : i < l0.length := by omega
    have hnf := ref_name_f l0[i] (by have := hb.2.2.2.1 _ (List.getElem_mem hi1); omega)
    refine Ev.step (f := fun k => (wickerref01_Name.f k l0[i]).bind fun t => if t = true then wickerref02_Check.l0 k ((i + 1 : Nat) : Int) l0 l1 a2 (l3.map ofR) else some 1) (fun k => ?_) (Ev.bind hnf ?_)
    · rw [wickerref02_Check.l0, if_pos (by omega), if_pos (by omega), rdB l0 i hi1, succ64 (by omega)]
    · by_cases hm : nmB l0[i] = true
      · exact Ev.pos hm (ih (i + 1) (by omega) (by rw [all_drop_cons hi1, ha, hm]; rfl))
      · have : texC nmB l0 = 1 := by unfold texC; rw [if_neg (fun h => hm (List.all_eq_true.1 h _ (List.getElem_mem _)))]
        rw [if_pos (.inl this)]
        exact Ev.neg hm (Ev.now _)
theorem ref_check_f : Ev (fun k => wickerref02_Check.f k l0 l1 a2 (l3.map ofR)) (checkC nmB mkB l0 l1 a2 l3) := by
  have full : Ev (fun k => wickerref02_Check.j0 k true l0 l1 a2 (l3.map ofR)) 11 := ev_nowS fun k => by rw [wickerref02_Check.j0, if_pos rfl]
  unfold wickerref02_Check.f checkC
  by_cases x0 : l0.length = 0
  · rw [if_pos (.inl x0)]; exact Ev.pos (by omega) full
  by_cases x1 : 2048 < l0.length
  · rw [if_pos (.inr (.inl x1))]; exact Ev.neg (by omega) (Ev.pos (by omega) full)
  by_cases x2 : 2048 < l1.length
  · rw [if_pos (.inr (.inr (.inl x2)))]; exact Ev.neg (by omega) (Ev.neg (by omega) (Ev.pos (by omega) full))
  refine Ev.neg (by omega) (Ev.neg (by omega) (Ev.neg (by omega) ?_))
  rw [List.length_map]
  by_cases x3 : 8192 < l3.length
  · rw [if_pos (.inr (.inr (.inr x3))), decide_eq_true (by omega)]; exact full
  · rw [if_neg (by omega), decide_eq_false (by omega)]
    refine Ev.step (fun k => ?_) (check_l0 l0 l1 a2 l3 hg l0.length 0 (by omega) (by simp))
    rw [wickerref02_Check.j0, if_neg (by simp)]; rfl
end
end Go.Proofs.YtmdjmbdeeodehaaDoor.G
end
section
set_option linter.unusedVariables false
set_option linter.unusedSimpArgs false
namespace Go.Proofs.YtmdjmbdeeodehaaDoor.G
open Go Go.Proofs Go.RowKit Go.Proofs.YtmdjmbdeeodehaaDoorW.PrintWords Go.Proofs.YtmdjmbdeeodehaaDoorW.PrintLast Go.Proofs.YtmdjmbdeeodehaaDoorW.PrintMore Go.Proofs.YtmdjmbdeeodehaaDoor.Pure
def treeC (l0 l1 : List ByteArray) (a2 : Int) (l3 : List GRule) (t : TTree) : Int :=
  if checkC nmB mkB l0 l1 a2 l3 ≠ 0 then checkC nmB mkB l0 l1 a2 l3
  else if 65536 < cntT t then 11
  else if ¬ t.f0 < 0 then fitT l3 t
  else if ¬ t.f1 < 0 ∨ (l1.length : Int) ≤ -1 - t.f1 then 9
  else if t.f0 ≠ -1 ∨ 0 < t.f2.length then 9 else 0
def rootC (l0 l1 : List ByteArray) (a2 : Int) (l3 : List GRule) (t : TTree) : Int :=
  if treeC l0 l1 a2 l3 t ≠ 0 then treeC l0 l1 a2 l3 t else if t.f0 < 0 ∨ (ruleAt l3 t.f0).f0 ≠ a2 then 10 else 0
theorem treeC_at {l0 l1 : List ByteArray} {a2 : Int} {l3 : List GRule} {t : TTree} (h : treeC l0 l1 a2 l3 t = 0) (h0 : ¬ t.f0 < 0) : fitT l3 t = 0 := by
  unfold treeC at h
  split at h
  · rename_i h1; exact absurd h h1
  · split at h
    · exact absurd h (by decide)
    · first | exact h | (rw [if_pos h0] at h; exact h)
theorem leafWrong_f (t : TTree) : tree_leafWrong.f t.f0 t.f1 t.f2 = some (if t.f0 ≠ -1 ∨ 0 < t.f2.length then 9 else 0) := by
  unfold tree_leafWrong.f
  by_cases h : t.f0 = -1
  · rw [if_pos h]
    by_cases h2 : 0 < t.f2.length
    · rw [if_pos (by omega), if_pos (Or.inr h2)]
    · rw [if_neg (by omega), if_neg (by omega)]
  · rw [if_neg h, if_pos (Or.inl h)]
set_option maxHeartbeats 4000000 in
set_option maxRecDepth 100000 in
theorem treeCheck_calls (A0 : Option Addr) (c0 : Nat) (l0 : List ByteArray) (A1 : Option Addr) (c1 : Nat) (l1 : List ByteArray) (a2 : Int) (A3 : Option Addr) (c3 : Nat) (l3 : List GRule) (hok : gramOk l0 l1 a2 l3 = true) (h0 : l0.length ≤ c0) (h1 : l1.length ≤ c1) (h3 : l3.length ≤ c3) (t : TTree) (T : Option Addr) (tc : Nat) (htc : t.f2.length ≤ tc) (hcnt : cntT t ≤ 1000000) (hsy : symOk t.f1 = true)
    (w : World) (hG : Laid w) (hr0 : Kd.C Kd.string w A0 l0.length l0) (hr1 : Kd.C Kd.string w A1 l1.length l1) (hr3 : Kd.C k32 w A3 l3.length l3) (ht : Kd.C k55 w T t.f2.length t.f2) :
    Calls Tryd.prog 31 #[.agg #[.slice A0 l0.length c0, .slice A1 l1.length c1, .int .i64 a2, .slice A3 l3.length c3], .agg #[.int .i64 t.f0, .int .i64 t.f1, .slice T t.f2.length tc]] w fun e w' => e = .returned (.int .i64 (treeC l0 l1 a2 l3 t)) ∧ Below w.heap.size w w' := by
  have hu := Tryd.underlying25
  have hu2 := Tryd.underlying55
  have hI : InT w A0 c0 l0 A1 c1 l1 a2 A3 c3 l3 t T tc _ := InT.mk0 w hr0 hr1 hr3 ht
  have hb := gram_bounds hok
  have HN := Lib.hid hb.2.2.1
  have HO := Lib.hid hb.2.2.2.2.2.2
  have HCH := Lib.hid (show gram_Grammar_Check.f l0 l1 a2 l3 = some (checkC nmB mkB l0 l1 a2 l3) by unfold gram_Grammar_Check.f; rw [if_pos hok])
  have HG := Lib.hid hG
  obtain ⟨rs, hrs⟩ : ∃ rs, rs = treeC l0 l1 a2 l3 t := ⟨_, rfl⟩
  have HRS := Lib.hid hrs
  obtain ⟨K, hK⟩ := Pure.Ev.out (count_f _ t (Nat.le_refl _) hcnt)
  have HK := Lib.hid (hK K (Nat.le_refl _))
  have HCN := Lib.hid hcnt
  have HSY := Lib.hid hsy
  have hz0 := hI.g.c0
  have hz1 := hI.g.c1
  have hz2 := hI.g.c2
  have hz3 := hI.g.c3
  have HI := Lib.hid hI
  have hl1 : l1.length ≤ 1000000 := hb.2.1
  rw [← hrs]
  unfold treeC at hrs
  have HRU := Lib.hid hrs
  obtain ⟨ch, hch⟩ : ∃ ch, ch = checkC nmB mkB l0 l1 a2 l3 := ⟨_, rfl⟩
  rw [← hch] at HCH HRU
  clear hr0 hr1 hr3 ht hG hok hb hcnt hsy hI hK hrs hch
  go_enter Tryd.func31, Tryd.ntmps31
  go_wp2_with fail
  refine (gram_Grammar_Check.calls A0 c0 l0 A1 c1 l1 a2 A3 c3 l3 ch _ (Laid.below HG.out HI.out.g.bel) HI.out.g.r0 h0 HI.out.g.r1 h1 HI.out.g.r3 h3 HCH.out).mono ?_
  rintro e w2 ⟨rfl, hb2⟩
  have hI2 := HI.out.step hb2
  clear hb2 HI hz0 hz1 hz2 hz3
  by_cases hne : ch ≠ 0
  · have hneb : (ch != 0) = true := bne_iff_ne.2 hne
    have HE : Hid (rs = ch) := Lib.hid (by rw [HRU.out, if_pos hne])
    have HI2 := Lib.hid hI2
    clear hne hI2
    go_wp2
    go_ret
    rw [HE.out]
    exact ⟨rfl, HI2.out.g.bel⟩
  have hneb : (ch != 0) = false := by rw [Decidable.not_not.1 hne]; rfl
  have HE := Lib.hid (HRU.out.trans (if_neg hne))
  have y0 := hI2.t0
  have y1 := hI2.t1
  have y2 := hI2.t2
  have HI2 := Lib.hid hI2
  clear hne hI2
  go_wp2_with fail
  refine (tree_Count.calls K t.f0 t.f1 T tc t.f2 _ _ HI2.out.tr htc HK.out).mono ?_
  rintro e w3 ⟨rfl, hb3⟩
  have hI3 := HI2.out.step hb3
  have y0 := hI3.t0
  have y1 := hI3.t1
  have y2 := hI3.t2
  have HI3 := Lib.hid hI3
  clear hb3 HI2 hI3
  by_cases hgt : 65536 < cntT t
  · have hgtb : decide ((cntT t : Int) > 65536) = true := decide_eq_true (by omega)
    have HE2 : Hid (rs = 11) := Lib.hid (by rw [HE.out, if_pos hgt])
    go_wp2
    go_ret
    rw [HE2.out]
    exact ⟨rfl, HI3.out.g.bel⟩
  have hgtb : decide ((cntT t : Int) > 65536) = false := decide_eq_false (by omega)
  have HE2 := Lib.hid (HE.out.trans (if_neg hgt))
  go_wp2_with fail
  by_cases hlf : t.f0 < 0
  · have HLF : Hid (tree_Tree_leaf.f t.f0 t.f1 t.f2 = some true) := Lib.hid (by unfold tree_Tree_leaf.f; rw [decide_eq_true hlf])
    have HE3 := Lib.hid (HE2.out.trans (if_neg (by omega)))
    clear hlf
    refine (tree_Tree_leaf.calls t.f0 t.f1 T tc t.f2 true _ HI3.out.tr htc HLF.out).mono ?_
    rintro e w4 ⟨rfl, hb4⟩
    have hI4 := HI3.out.step hb4
    clear hb4 HI3 y0 y1 y2
    have y0 := hI4.t0
    have y1 := hI4.t1
    have y2 := hI4.t2
    have z1 := hI4.g.c1
    have HI4 := Lib.hid hI4
    clear hI4
    by_cases hs1 : t.f1 < 0
    · have HIT : Hid (gram_Sym_IsTerm.f t.f1 = some true) := Lib.hid (by rw [isTerm_f, decide_eq_true hs1])
      have HPL : Hid (gram_Sym_Place.f t.f1 = some (-1 - t.f1)) := Lib.hid (by rw [place_f t.f1 HSY.out, if_pos hs1])
      obtain ⟨p, hp⟩ : ∃ p, p = -1 - t.f1 := ⟨_, rfl⟩
      rw [← hp] at HPL
      have HP := Lib.hid hp
      by_cases hge : (l1.length : Int) ≤ p
      · have hgeb : decide (p ≥ (l1.length : Int)) = true := decide_eq_true hge
        have HE4 : Hid (rs = 9) := Lib.hid (by rw [HE3.out, if_pos (by omega)])
        clear hs1 hp hge
        go_wp2_with fail
        go_quiet (first | ((go_at_call 78; exact Calls.quiet_of ((gram_Sym_IsTerm.calls t.f1 true _ HIT.out).mono fun _ _ ⟨he, hd⟩ => ⟨he, hd.out⟩))) | ((go_at_call 79; exact Calls.quiet_of ((gram_Sym_Place.calls t.f1 p _ HPL.out).mono fun _ _ ⟨he, hd⟩ => ⟨he, hd.out⟩))))
        go_wp2
        go_ret
        rw [HE4.out]
        exact ⟨rfl, pw_below_drewN HI4.out.g.bel _⟩
      · have hgeb : decide (p ≥ (l1.length : Int)) = false := decide_eq_false hge
        have HE4 := Lib.hid (HE3.out.trans (if_neg (by omega)))
        have HLW := Lib.hid (leafWrong_f t)
        obtain ⟨lw, hlw⟩ : ∃ lw : Int, lw = if t.f0 ≠ -1 ∨ 0 < t.f2.length then 9 else 0 := ⟨_, rfl⟩
        rw [← hlw] at HLW HE4
        have hzz := hp
        clear hs1 hge hlw hzz hp
        go_wp2_with fail
        go_quiet (first | ((go_at_call 78; exact Calls.quiet_of ((gram_Sym_IsTerm.calls t.f1 true _ HIT.out).mono fun _ _ ⟨he, hd⟩ => ⟨he, hd.out⟩))) | ((go_at_call 79; exact Calls.quiet_of ((gram_Sym_Place.calls t.f1 p _ HPL.out).mono fun _ _ ⟨he, hd⟩ => ⟨he, hd.out⟩))))
        go_wp2_with fail
        refine (tree_leafWrong.calls t.f0 t.f1 T tc t.f2 lw _ (Kd.C_drewN HI4.out.tr _) htc HLW.out).mono ?_
        rintro e w5 ⟨rfl, hb5⟩
        have hI5 := (HI4.out.step (pw_below_drewN (Below.refl _ _) _)).step hb5
        have HI5 := Lib.hid hI5
        clear hb5 HI4 y0 y1 y2 hI5 z1
        go_wp2
        go_ret
        rw [HE4.out]
        exact ⟨rfl, HI5.out.g.bel⟩
    · have HIT : Hid (gram_Sym_IsTerm.f t.f1 = some false) := Lib.hid (by rw [isTerm_f, decide_eq_false hs1])
      have HE4 : Hid (rs = 9) := Lib.hid (HE3.out.trans (if_pos (by omega)))
      clear hs1
      go_wp2_with fail
      go_quiet ((go_at_call 78; exact Calls.quiet_of ((gram_Sym_IsTerm.calls t.f1 false _ HIT.out).mono fun _ _ ⟨he, hd⟩ => ⟨he, hd.out⟩)))
      go_wp2
      go_ret
      rw [HE4.out]
      exact ⟨rfl, pw_below_drewN HI4.out.g.bel _⟩
  · have HLF : Hid (tree_Tree_leaf.f t.f0 t.f1 t.f2 = some false) := Lib.hid (by unfold tree_Tree_leaf.f; rw [decide_eq_false hlf])
    have HE3 : Hid (rs = fitT l3 t) := Lib.hid (HE2.out.trans (if_pos (by omega)))
    clear hlf
    refine (tree_Tree_leaf.calls t.f0 t.f1 T tc t.f2 false _ HI3.out.tr htc HLF.out).mono ?_
    rintro e w4 ⟨rfl, hb4⟩
    have hI4 := HI3.out.step hb4
    clear hb4 HI3 y0 y1 y2
    have y0 := hI4.t0
    have y1 := hI4.t1
    have y2 := hI4.t2
    have z0 := hI4.g.c0
    have z1 := hI4.g.c1
    have z2 := hI4.g.c2
    have z3 := hI4.g.c3
    have HI4 := Lib.hid hI4
    clear hI4
    go_wp2_with fail
    refine (nodeWrong_calls _ A0 c0 l0 A1 c1 l1 a2 A3 c3 l3 HN.out HO.out t T tc (Nat.le_refl _) _ HI4.out.g.r0 HI4.out.g.r1 HI4.out.g.r3 HI4.out.tr).mono ?_
    rintro e w5 ⟨rfl, hb5⟩
    have HI5 := Lib.hid (HI4.out.step hb5)
    rw [← HE3.out]
    clear hb5 HI4 y0 y1 y2 z0 z1 z2 z3
    go_wp2
    go_ret
    exact ⟨rfl, HI5.out.g.bel⟩
theorem keep_root {w : World} {A0 : Option Addr} {c0 : Nat} {l0 : List ByteArray} {A1 : Option Addr} {c1 : Nat} {l1 : List ByteArray} {a2 : Int} {A3 : Option Addr} {c3 : Nat} {l3 : List GRule} {t : TTree} {T : Option Addr} {tc : Nat} {ad : Addr} {q2 : Int} {W W' : World} (hb : Below W.heap.size W W') (h : InT w A0 c0 l0 A1 c1 l1 a2 A3 c3 l3 t T tc W ∧ W.cell? ad = some (.int .i64 q2)) : InT w A0 c0 l0 A1 c1 l1 a2 A3 c3 l3 t T tc W' ∧ W'.cell? ad = some (.int .i64 q2) :=
  ⟨h.1.step hb, (hb.cell (World.block_lt_of_cell? _ _ h.2)).trans h.2⟩
set_option maxHeartbeats 8000000 in
set_option maxRecDepth 100000 in
theorem treeRoot_calls (A0 : Option Addr) (c0 : Nat) (l0 : List ByteArray) (A1 : Option Addr) (c1 : Nat) (l1 : List ByteArray) (a2 : Int) (A3 : Option Addr) (c3 : Nat) (l3 : List GRule) (hok : gramOk l0 l1 a2 l3 = true) (h0 : l0.length ≤ c0) (h1 : l1.length ≤ c1) (h3 : l3.length ≤ c3) (t : TTree) (T : Option Addr) (tc : Nat) (htc : t.f2.length ≤ tc) (hcnt : cntT t ≤ 1000000) (hsy : symOk t.f1 = true)
    (w : World) (hG : Laid w) (hr0 : Kd.C Kd.string w A0 l0.length l0) (hr1 : Kd.C Kd.string w A1 l1.length l1) (hr3 : Kd.C k32 w A3 l3.length l3) (ht : Kd.C k55 w T t.f2.length t.f2) :
    Calls Tryd.prog 33 #[.agg #[.slice A0 l0.length c0, .slice A1 l1.length c1, .int .i64 a2, .slice A3 l3.length c3], .agg #[.int .i64 t.f0, .int .i64 t.f1, .slice T t.f2.length tc]] w fun e w' => e = .returned (.int .i64 (rootC l0 l1 a2 l3 t)) ∧ Below w.heap.size w w' := by
  have hu := Tryd.underlying25
  have hu2 := Tryd.underlying55
  have hu3 := Tryd.underlying32
  have hI : InT w A0 c0 l0 A1 c1 l1 a2 A3 c3 l3 t T tc _ := InT.mk0 w hr0 hr1 hr3 ht
  have HG := Lib.hid hG
  have HCH := Lib.hid (fun (W : World) hG hr0 hr1 hr3 ht => treeCheck_calls A0 c0 l0 A1 c1 l1 a2 A3 c3 l3 hok h0 h1 h3 t T tc htc hcnt hsy W hG hr0 hr1 hr3 ht)
  obtain ⟨rs, hrs⟩ : ∃ rs, rs = rootC l0 l1 a2 l3 t := ⟨_, rfl⟩
  have HAT := Lib.hid (@treeC_at l0 l1 a2 l3 t)
  rw [← hrs]
  unfold rootC at hrs
  have HRU := Lib.hid hrs
  generalize treeC l0 l1 a2 l3 t = ch at *
  have hz0 := hI.g.c0
  have hz1 := hI.g.c1
  have hz2 := hI.g.c2
  have hz3 := hI.g.c3
  have y0 := hI.t0
  have y1 := hI.t1
  have y2 := hI.t2
  have HI := Lib.hid hI
  clear hr0 hr1 hr3 ht hG hok hcnt hsy hI hrs
  go_enter Tryd.func33, Tryd.ntmps33
  go_wp2_with fail
  refine (HCH.out _ (Laid.below HG.out HI.out.g.bel) HI.out.g.r0 HI.out.g.r1 HI.out.g.r3 HI.out.tr).mono ?_
  rintro e w2 ⟨rfl, hb2⟩
  have hI2 := HI.out.step hb2
  clear hb2 HI hz0 hz1 hz2 hz3 y0 y1 y2
  by_cases hne : ch ≠ 0
  · have hneb : (ch != 0) = true := bne_iff_ne.2 hne
    have HE : Hid (rs = ch) := Lib.hid (by rw [HRU.out, if_pos hne])
    have HI2 := Lib.hid hI2
    clear hne hI2
    go_wp2
    go_ret
    rw [HE.out]
    exact ⟨rfl, HI2.out.g.bel⟩
  have hneb : (ch != 0) = false := by rw [Decidable.not_not.1 hne]; rfl
  have HE := Lib.hid (HRU.out.trans (if_neg hne))
  by_cases hlf : t.f0 < 0
  · have HLF : Hid (tree_Tree_leaf.f t.f0 t.f1 t.f2 = some true) := Lib.hid (by unfold tree_Tree_leaf.f; rw [decide_eq_true hlf])
    have HE2 : Hid (rs = 10) := Lib.hid (HE.out.trans (if_pos (Or.inl hlf)))
    clear hlf hne
    go_wp2_with fail
    have hS0 : InT w A0 c0 l0 A1 c1 l1 a2 A3 c3 l3 t T tc w2.drew := hI2.step (below_drew (Below.refl _ _))
    clear hI2
    refine RegT.region (F := ?Ftf) (fun W => InT w A0 c0 l0 A1 c1 l1 a2 A3 c3 l3 t T tc W) (fun i v _ => match i with | 0 => v = .agg #[.int .i64 t.f0, .int .i64 t.f1, .slice T t.f2.length tc] | 1 => v = .bool true | 2 => v = .bool true | 3 => v = undef | 4 => v = undef | 5 => v = undef | 6 => v = undef | 7 => v = undef | 8 => v = undef | 9 => v = undef | 10 => v = undef | 11 => v = undef | 12 => v = undef | 13 => v = .bool true | _ => True) ?hFtf (by kernel_rfl) (by kernel_rfl) (by kernel_rfl) (by kernel_rfl) ?hRtf ?hStf ⟨?o0tf, ?o1tf, ?o2tf, ?o3tf, ?o4tf, ?o5tf, ?o6tf, ?o7tf, ?o8tf, ?o9tf, ?o10tf, ?o11tf, ?o12tf, ?o13tf, trivial⟩ ?hendtf
    case hFtf => intro f; (try simp only [RegT.fillIn, RegT.fv, Act.put, List.setIfInBounds_toArray, List.set_cons_zero, List.set_cons_succ]); exact rfl
    case hRtf => exact fun _ _ _ _ h _ => h
    case hStf => exact hS0
    case o0tf =>
      intro f W1 hS hd K hK
      clear hd
      have z2 := hS.g.c2
      have z3 := hS.g.c3
      have y0 := hS.t0
      have y1 := hS.t1
      have y2 := hS.t2
      (go_simp; first | exact hK.out (.agg #[.int .i64 t.f0, .int .i64 t.f1, .slice T t.f2.length tc]) _ hS (Below.refl _ _) rfl _ (by rfl))
    case o1tf =>
      intro f W1 hS hd K hK
      obtain ⟨e12, -⟩ := hd
      replace e12 : f 12 = .agg #[.int .i64 t.f0, .int .i64 t.f1, .slice T t.f2.length tc] := e12
      go_simp
      go_at_call 100
      (with_reducible refine (tree_Tree_leaf.calls t.f0 t.f1 T tc t.f2 true _ hS.tr htc HLF.out).mono ?_)
      rintro e w' ⟨rfl, hb⟩
      have hS' := hS.step hb
      exact hK.out (.bool true) _ hS' hb rfl _ (by (try simp only [e12]); rfl)
    case o2tf =>
      intro f W1 hS hd K hK
      obtain ⟨e13, -, -⟩ := hd
      replace e13 : f 13 = .bool true := e13
      (go_simp; first | exact hK.out (.bool true) _ hS (Below.refl _ _) rfl _ (by (try simp only [e13]); rfl))
    case o3tf =>
      intro f W1 hS hd K hK
      obtain ⟨e14, -⟩ := hd
      replace e14 : f 14 = .bool true := e14
      go_simp; exact hK.out undef _ hS (Below.refl _ _) rfl _ (by (try simp only [e14]); rfl)
    case o4tf =>
      intro f W1 hS hd K hK
      obtain ⟨e15, e14, -⟩ := hd
      replace e15 : f 15 = undef := e15
      replace e14 : f 14 = .bool true := e14
      go_simp; exact hK.out undef _ hS (Below.refl _ _) rfl _ (by (try simp only [e15, e14]); rfl)
    case o5tf =>
      intro f W1 hS hd K hK
      obtain ⟨e14, -⟩ := hd
      replace e14 : f 14 = .bool true := e14
      go_simp; exact hK.out undef _ hS (Below.refl _ _) rfl _ (by (try simp only [e14]); rfl)
    case o6tf =>
      intro f W1 hS hd K hK
      obtain ⟨e17, e14, -⟩ := hd
      replace e17 : f 17 = undef := e17
      replace e14 : f 14 = .bool true := e14
      go_simp; exact hK.out undef _ hS (Below.refl _ _) rfl _ (by (try simp only [e17, e14]); rfl)
    case o7tf =>
      intro f W1 hS hd K hK
      obtain ⟨e16, e18, e14, -⟩ := hd
      replace e16 : f 16 = undef := e16
      replace e18 : f 18 = undef := e18
      replace e14 : f 14 = .bool true := e14
      go_simp; exact hK.out undef _ hS (Below.refl _ _) rfl _ (by (try simp only [e16, e18, e14]); rfl)
    case o8tf =>
      intro f W1 hS hd K hK
      obtain ⟨e19, e14, -⟩ := hd
      replace e19 : f 19 = undef := e19
      replace e14 : f 14 = .bool true := e14
      go_simp; exact hK.out undef _ hS (Below.refl _ _) rfl _ (by (try simp only [e19, e14]); rfl)
    case o9tf =>
      intro f W1 hS hd K hK
      obtain ⟨e20, e14, -⟩ := hd
      replace e20 : f 20 = undef := e20
      replace e14 : f 14 = .bool true := e14
      go_simp; exact hK.out undef _ hS (Below.refl _ _) rfl _ (by (try simp only [e20, e14]); rfl)
    case o10tf =>
      intro f W1 hS hd K hK
      obtain ⟨e14, -⟩ := hd
      replace e14 : f 14 = .bool true := e14
      go_simp; exact hK.out undef _ hS (Below.refl _ _) rfl _ (by (try simp only [e14]); rfl)
    case o11tf =>
      intro f W1 hS hd K hK
      obtain ⟨e22, e14, -⟩ := hd
      replace e22 : f 22 = undef := e22
      replace e14 : f 14 = .bool true := e14
      go_simp; exact hK.out undef _ hS (Below.refl _ _) rfl _ (by (try simp only [e22, e14]); rfl)
    case o12tf =>
      intro f W1 hS hd K hK
      obtain ⟨e21, e23, e14, -⟩ := hd
      replace e21 : f 21 = undef := e21
      replace e23 : f 23 = undef := e23
      replace e14 : f 14 = .bool true := e14
      go_simp; exact hK.out undef _ hS (Below.refl _ _) rfl _ (by (try simp only [e21, e23, e14]); rfl)
    case o13tf =>
      intro f W1 hS hd K hK
      obtain ⟨e14, e24, -⟩ := hd
      replace e14 : f 14 = .bool true := e14
      replace e24 : f 24 = undef := e24
      (go_simp; first | exact hK.out (.bool true) _ hS (Below.refl _ _) rfl _ (by (try simp only [e14, e24]); rfl))
    case hendtf =>
      intro f W1 hS hr
      have e25 : f 25 = .bool true := hr 13 _ _ rfl rfl
      (try dsimp only)
      generalize f 25 = x25 at *
      subst e25
      go_wp2
      go_ret
      rw [HE2.out]
      exact ⟨rfl, hS.g.bel⟩
  · have HLF : Hid (tree_Tree_leaf.f t.f0 t.f1 t.f2 = some false) := Lib.hid (by unfold tree_Tree_leaf.f; rw [decide_eq_false hlf])
    have hft := fitT_in (HAT.out (Decidable.not_not.1 hne) (by omega))
    have hp0 : 0 ≤ t.f0 := hft.1
    have hp1 : t.f0 < (l3.length : Int) := hft.2.1
    have hS0 : InT w A0 c0 l0 A1 c1 l1 a2 A3 c3 l3 t T tc w2.drew := hI2.step (below_drew (Below.refl _ _))
    obtain ⟨ad, R2, rc2, eA, hx0, -, -, -⟩ := at_T32 hS0.g.r3 t.f0 hp0 hp1
    subst eA
    obtain ⟨q2, hq2⟩ : ∃ q2, q2 = (ruleAt l3 t.f0).f0 := ⟨_, rfl⟩
    rw [show (rd_T32 l3 t.f0).f0 = q2 from hq2.symm] at hx0
    have HE' : Hid (rs = if t.f0 < 0 ∨ q2 ≠ a2 then 10 else 0) := Lib.hid (by rw [hq2]; exact HE.out)
    replace hS0 := And.intro hS0 hx0
    clear hI2 hx0 hft hq2 HE
    by_cases hqa : q2 ≠ a2
    · have hqb : (q2 != a2) = true := bne_iff_ne.2 hqa
      have HE2 : Hid (rs = 10) := Lib.hid (HE'.out.trans (if_pos (Or.inr hqa)))
      clear hqa hlf hne
      go_wp2_with fail
      refine RegT.region (F := ?Fft) (fun W => InT w A0 c0 l0 A1 c1 l1 a2 (some ad) c3 l3 t T tc W ∧ W.cell? (ad.add (t.f0.toNat * 2)) = some (.int .i64 q2)) (fun i v _ => match i with | 0 => v = .agg #[.int .i64 t.f0, .int .i64 t.f1, .slice T t.f2.length tc] | 1 => v = .bool false | 2 => v = .bool false | 3 => v = .pointer (some ⟨w.heap.size, 3, none⟩) | 4 => v = .slice (some ad) l3.length c3 | 5 => v = .pointer (some ⟨w.heap.size + 1, 0, none⟩) | 6 => v = .int .i64 t.f0 | 7 => v = .pointer (some (ad.add (t.f0.toNat * 2))) | 8 => v = .pointer (some (ad.add (t.f0.toNat * 2))) | 9 => v = .int .i64 q2 | 10 => v = .pointer (some ⟨w.heap.size, 2, none⟩) | 11 => v = .int .i64 a2 | 12 => v = .bool true | 13 => v = .bool true | _ => True) ?hFft (by kernel_rfl) (by kernel_rfl) (by kernel_rfl) (by kernel_rfl) ?hRft ?hSft ⟨?o0ft, ?o1ft, ?o2ft, ?o3ft, ?o4ft, ?o5ft, ?o6ft, ?o7ft, ?o8ft, ?o9ft, ?o10ft, ?o11ft, ?o12ft, ?o13ft, trivial⟩ ?hendft
      case hFft => intro f; (try simp only [RegT.fillIn, RegT.fv, Act.put, List.setIfInBounds_toArray, List.set_cons_zero, List.set_cons_succ]); exact rfl
      case hRft => exact fun _ _ _ _ h _ => h
      case hSft => exact hS0
      case o0ft =>
        intro f W1 hS hd K hK
        clear hd
        have z2 := hS.1.g.c2
        have z3 := hS.1.g.c3
        have y0 := hS.1.t0
        have y1 := hS.1.t1
        have y2 := hS.1.t2
        have x0 := hS.2
        (go_simp; first | exact hK.out (.agg #[.int .i64 t.f0, .int .i64 t.f1, .slice T t.f2.length tc]) _ hS (Below.refl _ _) rfl _ (by rfl))
      case o1ft =>
        intro f W1 hS hd K hK
        obtain ⟨e12, -⟩ := hd
        replace e12 : f 12 = .agg #[.int .i64 t.f0, .int .i64 t.f1, .slice T t.f2.length tc] := e12
        go_simp
        go_at_call 100
        (with_reducible refine (tree_Tree_leaf.calls t.f0 t.f1 T tc t.f2 false _ hS.1.tr htc HLF.out).mono ?_)
        rintro e w' ⟨rfl, hb⟩
        have hS' := keep_root hb hS
        exact hK.out (.bool false) _ hS' hb rfl _ (by (try simp only [e12]); rfl)
      case o2ft =>
        intro f W1 hS hd K hK
        obtain ⟨e13, -, -⟩ := hd
        replace e13 : f 13 = .bool false := e13
        (go_simp; first | exact hK.out (.bool false) _ hS (Below.refl _ _) rfl _ (by (try simp only [e13]); rfl))
      case o3ft =>
        intro f W1 hS hd K hK
        obtain ⟨e14, -⟩ := hd
        replace e14 : f 14 = .bool false := e14
        (go_simp; first | exact hK.out (.pointer (some ⟨w.heap.size, 3, none⟩)) _ hS (Below.refl _ _) rfl _ (by (try simp only [e14]); rfl))
      case o4ft =>
        intro f W1 hS hd K hK
        obtain ⟨e15, e14, -⟩ := hd
        replace e15 : f 15 = .pointer (some ⟨w.heap.size, 3, none⟩) := e15
        replace e14 : f 14 = .bool false := e14
        have z2 := hS.1.g.c2
        have z3 := hS.1.g.c3
        have y0 := hS.1.t0
        have y1 := hS.1.t1
        have y2 := hS.1.t2
        have x0 := hS.2
        (go_simp; first | exact hK.out (.slice (some ad) l3.length c3) _ hS (Below.refl _ _) rfl _ (by (try simp only [e15, e14]); rfl))
      case o5ft =>
        intro f W1 hS hd K hK
        obtain ⟨e14, -⟩ := hd
        replace e14 : f 14 = .bool false := e14
        (go_simp; first | exact hK.out (.pointer (some ⟨w.heap.size + 1, 0, none⟩)) _ hS (Below.refl _ _) rfl _ (by (try simp only [e14]); rfl))
      case o6ft =>
        intro f W1 hS hd K hK
        obtain ⟨e17, e14, -⟩ := hd
        replace e17 : f 17 = .pointer (some ⟨w.heap.size + 1, 0, none⟩) := e17
        replace e14 : f 14 = .bool false := e14
        have z2 := hS.1.g.c2
        have z3 := hS.1.g.c3
        have y0 := hS.1.t0
        have y1 := hS.1.t1
        have y2 := hS.1.t2
        have x0 := hS.2
        (go_simp; first | exact hK.out (.int .i64 t.f0) _ hS (Below.refl _ _) rfl _ (by (try simp only [e17, e14]); rfl))
      case o7ft =>
        intro f W1 hS hd K hK
        obtain ⟨e16, e18, e14, -⟩ := hd
        replace e16 : f 16 = .slice (some ad) l3.length c3 := e16
        replace e18 : f 18 = .int .i64 t.f0 := e18
        replace e14 : f 14 = .bool false := e14
        (go_simp; first | exact hK.out (.pointer (some (ad.add (t.f0.toNat * 2)))) _ hS (Below.refl _ _) rfl _ (by (try simp only [e16, e18, e14]); rfl))
      case o8ft =>
        intro f W1 hS hd K hK
        obtain ⟨e19, e14, -⟩ := hd
        replace e19 : f 19 = .pointer (some (ad.add (t.f0.toNat * 2))) := e19
        replace e14 : f 14 = .bool false := e14
        (go_simp; first | exact hK.out (.pointer (some (ad.add (t.f0.toNat * 2)))) _ hS (Below.refl _ _) rfl _ (by (try simp only [e19, e14]); rfl))
      case o9ft =>
        intro f W1 hS hd K hK
        obtain ⟨e20, e14, -⟩ := hd
        replace e20 : f 20 = .pointer (some (ad.add (t.f0.toNat * 2))) := e20
        replace e14 : f 14 = .bool false := e14
        have z2 := hS.1.g.c2
        have z3 := hS.1.g.c3
        have y0 := hS.1.t0
        have y1 := hS.1.t1
        have y2 := hS.1.t2
        have x0 := hS.2
        (go_simp; first | exact hK.out (.int .i64 q2) _ hS (Below.refl _ _) rfl _ (by (try simp only [e20, e14]); rfl))
      case o10ft =>
        intro f W1 hS hd K hK
        obtain ⟨e14, -⟩ := hd
        replace e14 : f 14 = .bool false := e14
        (go_simp; first | exact hK.out (.pointer (some ⟨w.heap.size, 2, none⟩)) _ hS (Below.refl _ _) rfl _ (by (try simp only [e14]); rfl))
      case o11ft =>
        intro f W1 hS hd K hK
        obtain ⟨e22, e14, -⟩ := hd
        replace e22 : f 22 = .pointer (some ⟨w.heap.size, 2, none⟩) := e22
        replace e14 : f 14 = .bool false := e14
        have z2 := hS.1.g.c2
        have z3 := hS.1.g.c3
        have y0 := hS.1.t0
        have y1 := hS.1.t1
        have y2 := hS.1.t2
        have x0 := hS.2
        (go_simp; first | exact hK.out (.int .i64 a2) _ hS (Below.refl _ _) rfl _ (by (try simp only [e22, e14]); rfl))
      case o12ft =>
        intro f W1 hS hd K hK
        obtain ⟨e21, e23, e14, -⟩ := hd
        replace e21 : f 21 = .int .i64 q2 := e21
        replace e23 : f 23 = .int .i64 a2 := e23
        replace e14 : f 14 = .bool false := e14
        (go_simp; first | exact hK.out (.bool true) _ hS (Below.refl _ _) rfl _ (by (try simp only [e21, e23, e14]); rfl))
      case o13ft =>
        intro f W1 hS hd K hK
        obtain ⟨e14, e24, -⟩ := hd
        replace e14 : f 14 = .bool false := e14
        replace e24 : f 24 = .bool true := e24
        (go_simp; first | exact hK.out (.bool true) _ hS (Below.refl _ _) rfl _ (by (try simp only [e14, e24]); rfl))
      case hendft =>
        intro f W1 hS hr
        have e25 : f 25 = .bool true := hr 13 _ _ rfl rfl
        (try dsimp only)
        generalize f 25 = x25 at *
        subst e25
        go_wp2
        go_ret
        rw [HE2.out]
        exact ⟨rfl, hS.1.g.bel⟩
    · have hqb : (q2 != a2) = false := by rw [Decidable.not_not.1 hqa]; simp
      have HE2 : Hid (rs = 0) := Lib.hid (HE'.out.trans (if_neg (by omega)))
      clear hqa hlf hne
      go_wp2_with fail
      refine RegT.region (F := ?Fff) (fun W => InT w A0 c0 l0 A1 c1 l1 a2 (some ad) c3 l3 t T tc W ∧ W.cell? (ad.add (t.f0.toNat * 2)) = some (.int .i64 q2)) (fun i v _ => match i with | 0 => v = .agg #[.int .i64 t.f0, .int .i64 t.f1, .slice T t.f2.length tc] | 1 => v = .bool false | 2 => v = .bool false | 3 => v = .pointer (some ⟨w.heap.size, 3, none⟩) | 4 => v = .slice (some ad) l3.length c3 | 5 => v = .pointer (some ⟨w.heap.size + 1, 0, none⟩) | 6 => v = .int .i64 t.f0 | 7 => v = .pointer (some (ad.add (t.f0.toNat * 2))) | 8 => v = .pointer (some (ad.add (t.f0.toNat * 2))) | 9 => v = .int .i64 q2 | 10 => v = .pointer (some ⟨w.heap.size, 2, none⟩) | 11 => v = .int .i64 a2 | 12 => v = .bool false | 13 => v = .bool false | _ => True) ?hFff (by kernel_rfl) (by kernel_rfl) (by kernel_rfl) (by kernel_rfl) ?hRff ?hSff ⟨?o0ff, ?o1ff, ?o2ff, ?o3ff, ?o4ff, ?o5ff, ?o6ff, ?o7ff, ?o8ff, ?o9ff, ?o10ff, ?o11ff, ?o12ff, ?o13ff, trivial⟩ ?hendff
      case hFff => intro f; (try simp only [RegT.fillIn, RegT.fv, Act.put, List.setIfInBounds_toArray, List.set_cons_zero, List.set_cons_succ]); exact rfl
      case hRff => exact fun _ _ _ _ h _ => h
      case hSff => exact hS0
      case o0ff =>
        intro f W1 hS hd K hK
        clear hd
        have z2 := hS.1.g.c2
        have z3 := hS.1.g.c3
        have y0 := hS.1.t0
        have y1 := hS.1.t1
        have y2 := hS.1.t2
        have x0 := hS.2
        (go_simp; first | exact hK.out (.agg #[.int .i64 t.f0, .int .i64 t.f1, .slice T t.f2.length tc]) _ hS (Below.refl _ _) rfl _ (by rfl))
      case o1ff =>
        intro f W1 hS hd K hK
        obtain ⟨e12, -⟩ := hd
        replace e12 : f 12 = .agg #[.int .i64 t.f0, .int .i64 t.f1, .slice T t.f2.length tc] := e12
        go_simp
        go_at_call 100
        (with_reducible refine (tree_Tree_leaf.calls t.f0 t.f1 T tc t.f2 false _ hS.1.tr htc HLF.out).mono ?_)
        rintro e w' ⟨rfl, hb⟩
        have hS' := keep_root hb hS
        exact hK.out (.bool false) _ hS' hb rfl _ (by (try simp only [e12]); rfl)
      case o2ff =>
        intro f W1 hS hd K hK
        obtain ⟨e13, -, -⟩ := hd
        replace e13 : f 13 = .bool false := e13
        (go_simp; first | exact hK.out (.bool false) _ hS (Below.refl _ _) rfl _ (by (try simp only [e13]); rfl))
      case o3ff =>
        intro f W1 hS hd K hK
        obtain ⟨e14, -⟩ := hd
        replace e14 : f 14 = .bool false := e14
        (go_simp; first | exact hK.out (.pointer (some ⟨w.heap.size, 3, none⟩)) _ hS (Below.refl _ _) rfl _ (by (try simp only [e14]); rfl))
      case o4ff =>
        intro f W1 hS hd K hK
        obtain ⟨e15, e14, -⟩ := hd
        replace e15 : f 15 = .pointer (some ⟨w.heap.size, 3, none⟩) := e15
        replace e14 : f 14 = .bool false := e14
        have z2 := hS.1.g.c2
        have z3 := hS.1.g.c3
        have y0 := hS.1.t0
        have y1 := hS.1.t1
        have y2 := hS.1.t2
        have x0 := hS.2
        (go_simp; first | exact hK.out (.slice (some ad) l3.length c3) _ hS (Below.refl _ _) rfl _ (by (try simp only [e15, e14]); rfl))
      case o5ff =>
        intro f W1 hS hd K hK
        obtain ⟨e14, -⟩ := hd
        replace e14 : f 14 = .bool false := e14
        (go_simp; first | exact hK.out (.pointer (some ⟨w.heap.size + 1, 0, none⟩)) _ hS (Below.refl _ _) rfl _ (by (try simp only [e14]); rfl))
      case o6ff =>
        intro f W1 hS hd K hK
        obtain ⟨e17, e14, -⟩ := hd
        replace e17 : f 17 = .pointer (some ⟨w.heap.size + 1, 0, none⟩) := e17
        replace e14 : f 14 = .bool false := e14
        have z2 := hS.1.g.c2
        have z3 := hS.1.g.c3
        have y0 := hS.1.t0
        have y1 := hS.1.t1
        have y2 := hS.1.t2
        have x0 := hS.2
        (go_simp; first | exact hK.out (.int .i64 t.f0) _ hS (Below.refl _ _) rfl _ (by (try simp only [e17, e14]); rfl))
      case o7ff =>
        intro f W1 hS hd K hK
        obtain ⟨e16, e18, e14, -⟩ := hd
        replace e16 : f 16 = .slice (some ad) l3.length c3 := e16
        replace e18 : f 18 = .int .i64 t.f0 := e18
        replace e14 : f 14 = .bool false := e14
        (go_simp; first | exact hK.out (.pointer (some (ad.add (t.f0.toNat * 2)))) _ hS (Below.refl _ _) rfl _ (by (try simp only [e16, e18, e14]); rfl))
      case o8ff =>
        intro f W1 hS hd K hK
        obtain ⟨e19, e14, -⟩ := hd
        replace e19 : f 19 = .pointer (some (ad.add (t.f0.toNat * 2))) := e19
        replace e14 : f 14 = .bool false := e14
        (go_simp; first | exact hK.out (.pointer (some (ad.add (t.f0.toNat * 2)))) _ hS (Below.refl _ _) rfl _ (by (try simp only [e19, e14]); rfl))
      case o9ff =>
        intro f W1 hS hd K hK
        obtain ⟨e20, e14, -⟩ := hd
        replace e20 : f 20 = .pointer (some (ad.add (t.f0.toNat * 2))) := e20
        replace e14 : f 14 = .bool false := e14
        have z2 := hS.1.g.c2
        have z3 := hS.1.g.c3
        have y0 := hS.1.t0
        have y1 := hS.1.t1
        have y2 := hS.1.t2
        have x0 := hS.2
        (go_simp; first | exact hK.out (.int .i64 q2) _ hS (Below.refl _ _) rfl _ (by (try simp only [e20, e14]); rfl))
      case o10ff =>
        intro f W1 hS hd K hK
        obtain ⟨e14, -⟩ := hd
        replace e14 : f 14 = .bool false := e14
        (go_simp; first | exact hK.out (.pointer (some ⟨w.heap.size, 2, none⟩)) _ hS (Below.refl _ _) rfl _ (by (try simp only [e14]); rfl))
      case o11ff =>
        intro f W1 hS hd K hK
        obtain ⟨e22, e14, -⟩ := hd
        replace e22 : f 22 = .pointer (some ⟨w.heap.size, 2, none⟩) := e22
        replace e14 : f 14 = .bool false := e14
        have z2 := hS.1.g.c2
        have z3 := hS.1.g.c3
        have y0 := hS.1.t0
        have y1 := hS.1.t1
        have y2 := hS.1.t2
        have x0 := hS.2
        (go_simp; first | exact hK.out (.int .i64 a2) _ hS (Below.refl _ _) rfl _ (by (try simp only [e22, e14]); rfl))
      case o12ff =>
        intro f W1 hS hd K hK
        obtain ⟨e21, e23, e14, -⟩ := hd
        replace e21 : f 21 = .int .i64 q2 := e21
        replace e23 : f 23 = .int .i64 a2 := e23
        replace e14 : f 14 = .bool false := e14
        (go_simp; first | exact hK.out (.bool false) _ hS (Below.refl _ _) rfl _ (by (try simp only [e21, e23, e14]); rfl))
      case o13ff =>
        intro f W1 hS hd K hK
        obtain ⟨e14, e24, -⟩ := hd
        replace e14 : f 14 = .bool false := e14
        replace e24 : f 24 = .bool false := e24
        (go_simp; first | exact hK.out (.bool false) _ hS (Below.refl _ _) rfl _ (by (try simp only [e14, e24]); rfl))
      case hendff =>
        intro f W1 hS hr
        have e25 : f 25 = .bool false := hr 13 _ _ rfl rfl
        (try dsimp only)
        generalize f 25 = x25 at *
        subst e25
        go_wp2
        go_ret
        rw [HE2.out]
        exact ⟨rfl, hS.1.g.bel⟩
end Go.Proofs.YtmdjmbdeeodehaaDoor.G
end
section
set_option linter.unusedVariables false
set_option linter.unusedSimpArgs false
namespace Go.Proofs.YtmdjmbdeeodehaaDoor.G
open Go Go.Proofs Go.RowKit Go.Proofs.YtmdjmbdeeodehaaDoorW.PrintWords Go.Proofs.YtmdjmbdeeodehaaDoorW.PrintLast Go.Proofs.YtmdjmbdeeodehaaDoorW.PrintMore Go.Proofs.YtmdjmbdeeodehaaDoor.Pure
def sgn (l0 l1 : List ByteArray) (a2 : Int) (l3 : List GRule) (s : Int) : ByteArray := (gram_Grammar_Text.f l0 l1 a2 l3 s).getD ByteArray.empty
mutual
def txT (l0 l1 : List ByteArray) (a2 : Int) (l3 : List GRule) : TTree → List UInt8
  | ⟨r, s, ks⟩ => if r < 0 then (sgn l0 l1 a2 l3 s).data.toList else 40 :: ((rdOf ByteArray.empty l0 (ruleAt l3 r).f0).data.toList ++ (txTs l0 l1 a2 l3 ks ++ [41]))
def txTs (l0 l1 : List ByteArray) (a2 : Int) (l3 : List GRule) : List TTree → List UInt8
  | [] => []
  | k :: ks => 32 :: (txT l0 l1 a2 l3 k ++ txTs l0 l1 a2 l3 ks)
end
mutual
def txOk (l0 l1 : List ByteArray) (a2 : Int) (l3 : List GRule) : TTree → Bool
  | ⟨r, s, ks⟩ => if r < 0 then (gram_Grammar_Text.f l0 l1 a2 l3 s).isSome else decide (r < l3.length) && (decide (0 ≤ (ruleAt l3 r).f0 ∧ (ruleAt l3 r).f0 < l0.length) && txOks l0 l1 a2 l3 ks)
def txOks (l0 l1 : List ByteArray) (a2 : Int) (l3 : List GRule) : List TTree → Bool
  | [] => true
  | k :: ks => txOk l0 l1 a2 l3 k && txOks l0 l1 a2 l3 ks
end
theorem txT_eq (l0 l1 : List ByteArray) (a2 : Int) (l3 : List GRule) (t : TTree) : txT l0 l1 a2 l3 t = if t.f0 < 0 then (sgn l0 l1 a2 l3 t.f1).data.toList else 40 :: ((rdOf ByteArray.empty l0 (ruleAt l3 t.f0).f0).data.toList ++ (txTs l0 l1 a2 l3 t.f2 ++ [41])) := by cases t; simp [txT]
theorem txOk_eq (l0 l1 : List ByteArray) (a2 : Int) (l3 : List GRule) (t : TTree) : txOk l0 l1 a2 l3 t = if t.f0 < 0 then (gram_Grammar_Text.f l0 l1 a2 l3 t.f1).isSome else decide (t.f0 < l3.length) && (decide (0 ≤ (ruleAt l3 t.f0).f0 ∧ (ruleAt l3 t.f0).f0 < l0.length) && txOks l0 l1 a2 l3 t.f2) := by cases t; simp [txOk]
theorem txOks_mem {l0 l1 : List ByteArray} {a2 : Int} {l3 : List GRule} : ∀ {ks : List TTree}, txOks l0 l1 a2 l3 ks = true → ∀ k ∈ ks, txOk l0 l1 a2 l3 k = true
  | k :: ks, h, x, hx => by
    simp only [txOks, Bool.and_eq_true] at h
    rcases List.mem_cons.1 hx with rfl | hx
    · exact h.1
    · exact txOks_mem h.2 x hx
theorem builder_below {B b : Nat} {bs : List Value} {W W' : World} (h : Lib.IsBuilderF 174 5 B b bs W) (hb : Below W.heap.size W W') : Lib.IsBuilderF 174 5 B b bs W' := by
  have one : ∀ p, Lib.BuilderAtF 174 5 B b p bs W → Lib.BuilderAtF 174 5 B b p bs W' := fun p ⟨hB, v, hk, hown, hne⟩ =>
    ⟨hB, v, blk_below hk hb, hown.kept (grown_of_below hb none) (by cases hv : v.ownBlock <;> simp), hne⟩
  exact h.elim (fun x => .inl (one _ x)) (fun x => .inr (one _ x))
theorem builder_blk {B b : Nat} {bs : List Value} {W : World} (h : Lib.IsBuilderF 174 5 B b bs W) : ∃ cs, W.heap[b]? = some (.cells cs 174 (0, 0)) := by
  rcases h with ⟨_, v, hk, _⟩ | ⟨_, v, hk, _⟩
  · exact ⟨_, hk⟩
  · exact ⟨_, hk⟩
structure InTx (w0 : World) (gb : Nat) (A0 : Option Addr) (c0 : Nat) (l0 : List ByteArray) (A1 : Option Addr) (c1 : Nat) (l1 : List ByteArray) (a2 : Int) (A3 : Option Addr) (c3 : Nat) (l3 : List GRule) (wb : Nat) (l : List UInt8) (W : World) : Prop where
  bel : Below w0.heap.size w0 W
  g : w0.heap[gb]? = some (.cells #[.slice A0 l0.length c0, .slice A1 l1.length c1, .int .i64 a2, .slice A3 l3.length c3] 25 (0, 0))
  r0 : Kd.C Kd.string w0 A0 l0.length l0
  r1 : Kd.C Kd.string w0 A1 l1.length l1
  r3 : Kd.C k32 w0 A3 l3.length l3
  b : Lib.IsBuilderF 174 5 w0.heap.size w0.heap.size (Lib.byteCells l) W
  f : W.heap[wb]? = some (.cells #[.func (.func 115) #[] #[.pointer (some ⟨w0.heap.size, 0, none⟩), .pointer (some ⟨gb, 0, none⟩), .pointer (some ⟨wb, 0, none⟩)]] 161 (0, 0))
section
variable {w0 : World} {gb : Nat} {A0 : Option Addr} {c0 : Nat} {l0 : List ByteArray} {A1 : Option Addr} {c1 : Nat} {l1 : List ByteArray} {a2 : Int} {A3 : Option Addr} {c3 : Nat} {l3 : List GRule} {wb : Nat} {l : List UInt8} {W W' : World}
theorem InTx.step (h : InTx w0 gb A0 c0 l0 A1 c1 l1 a2 A3 c3 l3 wb l W) (hb : Below W.heap.size W W') : InTx w0 gb A0 c0 l0 A1 c1 l1 a2 A3 c3 l3 wb l W' := ⟨h.bel.trans (hb.mono h.bel.size), h.g, h.r0, h.r1, h.r3, builder_below h.b hb, blk_below h.f hb⟩
theorem InTx.gW (h : InTx w0 gb A0 c0 l0 A1 c1 l1 a2 A3 c3 l3 wb l W) : W.heap[gb]? = some (.cells #[.slice A0 l0.length c0, .slice A1 l1.length c1, .int .i64 a2, .slice A3 l3.length c3] 25 (0, 0)) := blk_below h.g h.bel
theorem InTx.y0 (h : InTx w0 gb A0 c0 l0 A1 c1 l1 a2 A3 c3 l3 wb l W) : W.cell? ⟨gb, 0, none⟩ = some (.slice A0 l0.length c0) := (blk_cell h.gW 0).trans rfl
theorem InTx.y1 (h : InTx w0 gb A0 c0 l0 A1 c1 l1 a2 A3 c3 l3 wb l W) : W.cell? ⟨gb, 1, none⟩ = some (.slice A1 l1.length c1) := (blk_cell h.gW 1).trans rfl
theorem InTx.y2 (h : InTx w0 gb A0 c0 l0 A1 c1 l1 a2 A3 c3 l3 wb l W) : W.cell? ⟨gb, 2, none⟩ = some (.int .i64 a2) := (blk_cell h.gW 2).trans rfl
theorem InTx.y3 (h : InTx w0 gb A0 c0 l0 A1 c1 l1 a2 A3 c3 l3 wb l W) : W.cell? ⟨gb, 3, none⟩ = some (.slice A3 l3.length c3) := (blk_cell h.gW 3).trans rfl
theorem InTx.f0 (h : InTx w0 gb A0 c0 l0 A1 c1 l1 a2 A3 c3 l3 wb l W) : W.cell? ⟨wb, 0, none⟩ = some (.func (.func 115) #[] #[.pointer (some ⟨w0.heap.size, 0, none⟩), .pointer (some ⟨gb, 0, none⟩), .pointer (some ⟨wb, 0, none⟩)]) := (blk_cell h.f 0).trans rfl
theorem kept_box {b t : Nat} {cs : Array Value} (h : Lib.OthersKept 5 (some b) W W') {k : Nat} (hk : W.heap[k]? = some (.cells cs t (0, 0))) (hkb : k ≠ b) (ht : t ≠ 5) : W'.heap[k]? = some (.cells cs t (0, 0)) :=
  h k _ hk (fun e => hkb (Option.some.inj e)) (fun c fz e => ht (by injection e))
theorem tws (h : InTx w0 gb A0 c0 l0 A1 c1 l1 a2 A3 c3 l3 wb l W) (s : ByteArray) (hl : l.length + s.size ≤ 100000000000000) :
    Calls Tryd.prog 116 #[.pointer (some ⟨w0.heap.size, 0, none⟩), .string s] W fun e w' => e = .returned (.tuple #[.int .i64 s.size, .nilIface]) ∧ InTx w0 gb A0 c0 l0 A1 c1 l1 a2 A3 c3 l3 wb (l ++ s.data.toList) w' ∧ Lib.OthersKept 5 (some w0.heap.size) W w' := by
  refine (Tryd.Builder_WriteString_k w0.heap.size w0.heap.size (Lib.byteCells l) s W h.b (by rw [Lib.byteCells_length]; omega) h.bel.size).mono ?_
  rintro e w' ⟨rfl, h1, hb, hk⟩
  obtain ⟨cs, hbk⟩ := builder_blk h.b
  refine ⟨rfl, ⟨h.bel.trans hb, h.g, h.r0, h.r1, h.r3, ?_, kept_box hk h.f (blk_ne h.f hbk (by decide)) (by decide)⟩, hk⟩
  rw [Lib.byteCells_append]; exact Or.inr h1
end
theorem txenters (u : Value) (bb gb wb : Nat) (W : World) : Sem.run Tryd.prog (callFunc 115 #[u, .pointer (some ⟨bb, 0, none⟩), .pointer (some ⟨gb, 0, none⟩), .pointer (some ⟨wb, 0, none⟩)]) W = .ok (.enter 115 #[u, .pointer (some ⟨bb, 0, none⟩), .pointer (some ⟨gb, 0, none⟩), .pointer (some ⟨wb, 0, none⟩)]) W := by kernel_rfl
set_option maxHeartbeats 8000000 in
set_option maxRecDepth 100000 in
theorem text1_calls : ∀ (n : Nat) (t : TTree) (htn : cntT t ≤ n) (w0 : World) (T : Option Addr) (tc : Nat) (htc : t.f2.length ≤ tc) (ht : Kd.C k55 w0 T t.f2.length t.f2) (gb : Nat) (A0 : Option Addr) (c0 : Nat) (l0 : List ByteArray) (A1 : Option Addr) (c1 : Nat) (l1 : List ByteArray) (a2 : Int) (A3 : Option Addr) (c3 : Nat) (l3 : List GRule) (h0 : l0.length ≤ c0) (h1 : l1.length ≤ c1) (h3 : l3.length ≤ c3) (hk : txOk l0 l1 a2 l3 t = true) (hq0 : l0.length ≤ 1000000) (hq3 : l3.length ≤ 1000000)
    (wb : Nat) (l : List UInt8) (hl : l.length + (txT l0 l1 a2 l3 t).length ≤ 10000000000000) (W : World) (hI : InTx w0 gb A0 c0 l0 A1 c1 l1 a2 A3 c3 l3 wb l W),
    Calls Tryd.prog 115 #[.agg #[.int .i64 t.f0, .int .i64 t.f1, .slice T t.f2.length tc], .pointer (some ⟨w0.heap.size, 0, none⟩), .pointer (some ⟨gb, 0, none⟩), .pointer (some ⟨wb, 0, none⟩)] W fun e w' => e = .returned (.tuple #[]) ∧ InTx w0 gb A0 c0 l0 A1 c1 l1 a2 A3 c3 l3 wb (l ++ txT l0 l1 a2 l3 t) w' := by
  intro n
  induction n with
  | zero => intro t htn; have := cntT_pos t; omega
  | succ n ih =>
    intro t htn w0 T tc htc ht gb A0 c0 l0 A1 c1 l1 a2 A3 c3 l3 h0 h1 h3 hk hq0 hq3 wb l hl W hI
    have hu := Tryd.underlying55
    have hu2 := Tryd.underlying25
    have HIH := Lib.hid ih
    have HTN := Lib.hid htn
    have HT := Lib.hid ht
    have HTC := Lib.hid htc
    have hB0 : Below W.heap.size W (W.alloc (.cells #[.int .i64 t.f0, .int .i64 t.f1, .slice T t.f2.length tc] 55)) := (Below.refl _ _).alloc (Nat.le_refl _) _
    have hI1 := hI.step hB0
    have hTW : Hid (∀ W', InTx w0 gb A0 c0 l0 A1 c1 l1 a2 A3 c3 l3 wb l W' → Kd.C k55 W' T t.f2.length t.f2) := Lib.hid (fun W' h => Kd.C_below ht h.bel)
    have HY := Lib.hid (txT_eq l0 l1 a2 l3 t)
    have HOK := Lib.hid ((txOk_eq l0 l1 a2 l3 t).symm.trans hk)
    obtain ⟨ys, hys⟩ : ∃ ys, ys = txT l0 l1 a2 l3 t := ⟨_, rfl⟩
    rw [← hys] at HY hl ⊢
    have HL := Lib.hid hl
    have hbx := blk_new W (.cells #[.int .i64 t.f0, .int .i64 t.f1, .slice T t.f2.length tc] 55)
    have HBX := Lib.hid hbx
    have HI1 := Lib.hid hI1
    have HWB : Hid (W.heap.size ≠ w0.heap.size) := Lib.hid (by
      obtain ⟨cs, hbk⟩ := builder_blk hI.b
      have := blk_lt hbk
      omega)
    by_cases hlf : t.f0 < 0
    · have HLF : Hid (tree_Tree_leaf.f t.f0 t.f1 t.f2 = some true) := Lib.hid (by unfold tree_Tree_leaf.f; rw [decide_eq_true hlf])
      have HE : Hid (ys = (sgn l0 l1 a2 l3 t.f1).data.toList) := Lib.hid (by rw [HY.out, if_pos hlf])
      have HSG : Hid (gram_Grammar_Text.f l0 l1 a2 l3 t.f1 = some (sgn l0 l1 a2 l3 t.f1)) := Lib.hid (by
        have := HOK.out
        rw [if_pos hlf] at this
        unfold sgn
        obtain ⟨x, hx⟩ := Option.isSome_iff_exists.1 this
        rw [hx]; rfl)
      obtain ⟨sg, hsg⟩ : ∃ sg, sg = sgn l0 l1 a2 l3 t.f1 := ⟨_, rfl⟩
      rw [← hsg] at HSG HE
      have hsz : l.length + sg.size ≤ 10000000000000 := by
        have h := HL.out
        rw [HE.out, Go.Proofs.YtmdjmbdeeodehaaDoorW.PrintWords.data_length] at h; exact h
      have HSZ := Lib.hid hsz
      clear hlf hys hI hI1 ih htn ht htc hB0 hl hbx hk hsg hsz
      go_enter Tryd.func115, Tryd.ntmps115
      go_wp2_with fail
      refine (tree_Tree_leaf.calls t.f0 t.f1 T tc t.f2 true _ (hTW.out _ HI1.out) HTC.out HLF.out).mono ?_
      rintro e w2 ⟨rfl, hb2⟩
      have hI2 := HI1.out.step hb2
      have hbx2 := blk_below HBX.out hb2
      have y1 : w2.cell? ⟨W.heap.size, 1, none⟩ = some (.int .i64 t.f1) := (blk_cell hbx2 1).trans rfl
      have z0 := hI2.y0
      have z1 := hI2.y1
      have z2 := hI2.y2
      have z3 := hI2.y3
      have HI2 := Lib.hid hI2
      clear hb2 hI2 HI1 HBX hbx2
      go_wp2_with fail
      refine (gram_Grammar_Text.calls A0 c0 l0 A1 c1 l1 a2 A3 c3 l3 t.f1 sg _ (Kd.C_below HI2.out.r0 HI2.out.bel) h0 (Kd.C_below HI2.out.r1 HI2.out.bel) h1 (Kd.C_below HI2.out.r3 HI2.out.bel) h3 HSG.out).mono ?_
      rintro e w3 ⟨rfl, hb3⟩
      have HI3 := Lib.hid (HI2.out.step hb3)
      clear hb3 HI2 y1 z0 z1 z2 z3
      go_wp2_with fail
      refine (tws HI3.out sg (by have := HSZ.out; omega)).mono ?_
      rintro e w4 ⟨rfl, hI4, -⟩
      rw [← HE.out] at hI4
      have HI4 := Lib.hid hI4
      clear hI4 HI3
      go_wp2
      first
        | exact bodyPost_end (v := .tuple #[]) (by simp [results, Tryd.results115, go_sem]) rfl ⟨rfl, HI4.out⟩
        | exact bodyPost_ret (v := .tuple #[]) (by simp [results, Tryd.results115, go_sem]) rfl ⟨rfl, HI4.out⟩
    · have HLF : Hid (tree_Tree_leaf.f t.f0 t.f1 t.f2 = some false) := Lib.hid (by unfold tree_Tree_leaf.f; rw [decide_eq_false hlf])
      have HE := Lib.hid (HY.out.trans (if_neg hlf))
      have hok := HOK.out
      rw [if_neg hlf, Bool.and_eq_true, Bool.and_eq_true, decide_eq_true_eq, decide_eq_true_eq] at hok
      obtain ⟨ho1, ⟨ho2, ho3⟩, ho4⟩ := hok
      have hp0 : 0 ≤ t.f0 := by omega
      obtain ⟨ad, R2, rc2, eA, hx0, -, -, -⟩ := at_T32 HI1.out.r3 t.f0 hp0 ho1
      subst eA
      obtain ⟨q2, hq2⟩ : ∃ q2, q2 = (ruleAt l3 t.f0).f0 := ⟨_, rfl⟩
      rw [show (rd_T32 l3 t.f0).f0 = q2 from hq2.symm] at hx0
      rw [← hq2] at HE ho2 ho3
      obtain ⟨nad, eN, hxn⟩ := Kd.at_string HI1.out.r0 q2 ho2 ho3
      subst eN
      obtain ⟨nm, hnm⟩ : ∃ nm, nm = rdOf ByteArray.empty l0 q2 := ⟨_, rfl⟩
      rw [← hnm] at hxn HE
      have HX0 := Lib.hid hx0
      have HXN := Lib.hid hxn
      have HKS := Lib.hid ho4
      have htl : t.f2.length ≤ 9223372036854775807 := Kd.C_max HT.out
      have hnl : l.length + (nm.size + (txTs l0 l1 a2 l3 t.f2).length + 2) ≤ 10000000000000 := by
        have h := HL.out
        rw [HE.out] at h
        simp only [List.length_cons, List.length_append, Go.Proofs.YtmdjmbdeeodehaaDoorW.PrintWords.data_length, List.length_nil] at h
        omega
      have HNL := Lib.hid hnl
      clear hlf hys hI hI1 ih htn ht htc hB0 hl hbx hk hnl hnm hx0 hxn ho4 HOK HY hq2
      go_enter Tryd.func115, Tryd.ntmps115
      go_wp2_with fail
      refine (tree_Tree_leaf.calls t.f0 t.f1 T tc t.f2 false _ (hTW.out _ HI1.out) HTC.out HLF.out).mono ?_
      rintro e w2 ⟨rfl, hb2⟩
      have hI2 := HI1.out.step hb2
      have hbx2 := blk_below HBX.out hb2
      have y0 : w2.cell? ⟨W.heap.size, 0, none⟩ = some (.int .i64 t.f0) := (blk_cell hbx2 0).trans rfl
      have z0 := hI2.y0
      have z3 := hI2.y3
      have x0 := (hI2.bel.cell (World.block_lt_of_cell? _ _ HX0.out)).trans HX0.out
      have xn := (hI2.bel.cell (World.block_lt_of_cell? _ _ HXN.out)).trans HXN.out
      have HI2 := Lib.hid hI2
      have HBX2 := Lib.hid hbx2
      clear hb2 hI2 HI1 HBX hbx2
      go_wp2_with fail
      have hd2 := HI2.out.step (below_drew (Below.refl w2.heap.size w2))
      clear y0 z0 z3 x0 xn
      have hs1 : (⟨#[40]⟩ ++ nm : ByteArray).size ≤ 9223372036854775807 := by have := HNL.out; rw [ByteArray.size_append, show (⟨#[40]⟩ : ByteArray).size = 1 from rfl]; omega
      have hs2 : 1 + nm.size ≤ 9223372036854775807 := by have := HNL.out; omega
      refine RegT.regionT (F := ?FX) (fun W1 => InTx w0 gb (some nad) c0 l0 A1 c1 l1 a2 (some ad) c3 l3 wb l W1 ∧ W1.heap[W.heap.size]? = some (.cells #[.int .i64 t.f0, .int .i64 t.f1, .slice T t.f2.length tc] 55 (0, 0))) [fun v _ => v = .pointer (some ⟨gb, 0, none⟩), fun v _ => v = .slice (some nad) l0.length c0, fun v _ => v = .pointer (some ⟨gb, 3, none⟩), fun v _ => v = .slice (some ad) l3.length c3, fun v _ => v = .pointer (some ⟨W.heap.size, 0, none⟩), fun v _ => v = .int .i64 t.f0, fun v _ => v = .pointer (some (ad.add (t.f0.toNat * 2))), fun v _ => v = .pointer (some (ad.add (t.f0.toNat * 2))), fun v _ => v = .int .i64 q2, fun v _ => v = .pointer (some (nad.add q2.toNat)), fun v _ => v = .string nm, fun v _ => v = .string ((⟨#[40]⟩ : ByteArray) ++ nm)] (fun i v => match i with  | _ => none) (fun i => match i with  | _ => false) 12 ?hFX (by kernel_rfl) (by kernel_rfl) (by kernel_rfl) (by kernel_rfl) (by kernel_rfl) (by simp) ⟨fun _ _ _ h _ => h, fun _ _ _ h _ => h, fun _ _ _ h _ => h, fun _ _ _ h _ => h, fun _ _ _ h _ => h, fun _ _ _ h _ => h, fun _ _ _ h _ => h, fun _ _ _ h _ => h, fun _ _ _ h _ => h, fun _ _ _ h _ => h, fun _ _ _ h _ => h, fun _ _ _ h _ => h, trivial⟩ ?hSX ⟨?o0X, ?o1X, ?o2X, ?o3X, ?o4X, ?o5X, ?o6X, ?o7X, ?o8X, ?o9X, ?o10X, ?o11X, trivial⟩ ?hendX
      case hFX => intro f; (try simp only [List.take_succ_cons, List.take_zero, RegT.fillIn, RegT.fv, Act.put, List.setIfInBounds_toArray, List.set_cons_zero, List.set_cons_succ]); exact rfl
      case hSX => exact ⟨hd2, blk_drew HBX2.out⟩
      case o0X =>
        intro f W1 hS hd K hK
        clear hd
        (go_simp; exact hK.out (.pointer (some ⟨gb, 0, none⟩)) _ hS (Below.refl _ _) rfl (fun _ (h : (none : Option Nat) = some _) => by cases h) _ (by rfl))
      case o1X =>
        intro f W1 hS hd K hK
        obtain ⟨e14, -⟩ := hd
        replace e14 : f 14 = .pointer (some ⟨gb, 0, none⟩) := e14
        have y0 : W1.cell? ⟨W.heap.size, 0, none⟩ = some (.int .i64 t.f0) := (blk_cell hS.2 0).trans rfl
        have z0 := hS.1.y0
        have z3 := hS.1.y3
        have x0 := (hS.1.bel.cell (World.block_lt_of_cell? _ _ HX0.out)).trans HX0.out
        have xn := (hS.1.bel.cell (World.block_lt_of_cell? _ _ HXN.out)).trans HXN.out
        (go_simp; exact hK.out (.slice (some nad) l0.length c0) _ hS (Below.refl _ _) rfl (fun _ (h : (none : Option Nat) = some _) => by cases h) _ (by first | (simp only [e14]; done) | (simp only [e14]; rfl) | rfl))
      case o2X =>
        intro f W1 hS hd K hK
        clear hd
        (go_simp; exact hK.out (.pointer (some ⟨gb, 3, none⟩)) _ hS (Below.refl _ _) rfl (fun _ (h : (none : Option Nat) = some _) => by cases h) _ (by rfl))
      case o3X =>
        intro f W1 hS hd K hK
        obtain ⟨e16, -⟩ := hd
        replace e16 : f 16 = .pointer (some ⟨gb, 3, none⟩) := e16
        have y0 : W1.cell? ⟨W.heap.size, 0, none⟩ = some (.int .i64 t.f0) := (blk_cell hS.2 0).trans rfl
        have z0 := hS.1.y0
        have z3 := hS.1.y3
        have x0 := (hS.1.bel.cell (World.block_lt_of_cell? _ _ HX0.out)).trans HX0.out
        have xn := (hS.1.bel.cell (World.block_lt_of_cell? _ _ HXN.out)).trans HXN.out
        (go_simp; exact hK.out (.slice (some ad) l3.length c3) _ hS (Below.refl _ _) rfl (fun _ (h : (none : Option Nat) = some _) => by cases h) _ (by first | (simp only [e16]; done) | (simp only [e16]; rfl) | rfl))
      case o4X =>
        intro f W1 hS hd K hK
        clear hd
        (go_simp; exact hK.out (.pointer (some ⟨W.heap.size, 0, none⟩)) _ hS (Below.refl _ _) rfl (fun _ (h : (none : Option Nat) = some _) => by cases h) _ (by rfl))
      case o5X =>
        intro f W1 hS hd K hK
        obtain ⟨e18, -⟩ := hd
        replace e18 : f 18 = .pointer (some ⟨W.heap.size, 0, none⟩) := e18
        have y0 : W1.cell? ⟨W.heap.size, 0, none⟩ = some (.int .i64 t.f0) := (blk_cell hS.2 0).trans rfl
        have z0 := hS.1.y0
        have z3 := hS.1.y3
        have x0 := (hS.1.bel.cell (World.block_lt_of_cell? _ _ HX0.out)).trans HX0.out
        have xn := (hS.1.bel.cell (World.block_lt_of_cell? _ _ HXN.out)).trans HXN.out
        (go_simp; exact hK.out (.int .i64 t.f0) _ hS (Below.refl _ _) rfl (fun _ (h : (none : Option Nat) = some _) => by cases h) _ (by first | (simp only [e18]; done) | (simp only [e18]; rfl) | rfl))
      case o6X =>
        intro f W1 hS hd K hK
        obtain ⟨e17, e19, -⟩ := hd
        replace e17 : f 17 = .slice (some ad) l3.length c3 := e17
        replace e19 : f 19 = .int .i64 t.f0 := e19
        (go_simp; exact hK.out (.pointer (some (ad.add (t.f0.toNat * 2)))) _ hS (Below.refl _ _) rfl (fun _ (h : (none : Option Nat) = some _) => by cases h) _ (by first | (simp only [e17, e19]; done) | (simp only [e17, e19]; rfl) | rfl))
      case o7X =>
        intro f W1 hS hd K hK
        obtain ⟨e20, -⟩ := hd
        replace e20 : f 20 = .pointer (some (ad.add (t.f0.toNat * 2))) := e20
        (go_simp; exact hK.out (.pointer (some (ad.add (t.f0.toNat * 2)))) _ hS (Below.refl _ _) rfl (fun _ (h : (none : Option Nat) = some _) => by cases h) _ (by first | (simp only [e20]; done) | (simp only [e20]; rfl) | rfl))
      case o8X =>
        intro f W1 hS hd K hK
        obtain ⟨e21, -⟩ := hd
        replace e21 : f 21 = .pointer (some (ad.add (t.f0.toNat * 2))) := e21
        have y0 : W1.cell? ⟨W.heap.size, 0, none⟩ = some (.int .i64 t.f0) := (blk_cell hS.2 0).trans rfl
        have z0 := hS.1.y0
        have z3 := hS.1.y3
        have x0 := (hS.1.bel.cell (World.block_lt_of_cell? _ _ HX0.out)).trans HX0.out
        have xn := (hS.1.bel.cell (World.block_lt_of_cell? _ _ HXN.out)).trans HXN.out
        (go_simp; exact hK.out (.int .i64 q2) _ hS (Below.refl _ _) rfl (fun _ (h : (none : Option Nat) = some _) => by cases h) _ (by first | (simp only [e21]; done) | (simp only [e21]; rfl) | rfl))
      case o9X =>
        intro f W1 hS hd K hK
        obtain ⟨e15, e22, -⟩ := hd
        replace e15 : f 15 = .slice (some nad) l0.length c0 := e15
        replace e22 : f 22 = .int .i64 q2 := e22
        (go_simp; exact hK.out (.pointer (some (nad.add q2.toNat))) _ hS (Below.refl _ _) rfl (fun _ (h : (none : Option Nat) = some _) => by cases h) _ (by first | (simp only [e15, e22]; done) | (simp only [e15, e22]; rfl) | rfl))
      case o10X =>
        intro f W1 hS hd K hK
        obtain ⟨e23, -⟩ := hd
        replace e23 : f 23 = .pointer (some (nad.add q2.toNat)) := e23
        have y0 : W1.cell? ⟨W.heap.size, 0, none⟩ = some (.int .i64 t.f0) := (blk_cell hS.2 0).trans rfl
        have z0 := hS.1.y0
        have z3 := hS.1.y3
        have x0 := (hS.1.bel.cell (World.block_lt_of_cell? _ _ HX0.out)).trans HX0.out
        have xn := (hS.1.bel.cell (World.block_lt_of_cell? _ _ HXN.out)).trans HXN.out
        (go_simp; exact hK.out (.string nm) _ hS (Below.refl _ _) rfl (fun _ (h : (none : Option Nat) = some _) => by cases h) _ (by first | (simp only [e23]; done) | (simp only [e23]; rfl) | rfl))
      case o11X =>
        intro f W1 hS hd K hK
        obtain ⟨e24, -⟩ := hd
        replace e24 : f 24 = .string nm := e24
        have hs3 : ¬ 9223372036854775807 < 1 + nm.size := by omega
        go_simp
        (try rw [if_neg hs3])
        (try go_simp)
        exact hK.out (.string ((⟨#[40]⟩ : ByteArray) ++ nm)) _ hS (Below.refl _ _) rfl (fun _ (h : (none : Option Nat) = some _) => by cases h) _ (by first | (simp only [e24]; done) | (simp only [e24]; rfl) | rfl)
      intro f W1 hS hr hbl
      have e25 := hr 11 _ _ (by omega) rfl rfl
      obtain e25 := e25
      (try dsimp only)
      generalize f 25 = x25 at *
      subst e25
      try simp only [List.drop_succ_cons, List.drop_zero]
      have HBX3 := Lib.hid hS.2
      have HS3 := Lib.hid hS.1
      clear hr hbl hS hd2
      go_wp2_with fail
      with_reducible refine (tws HS3.out ((⟨#[40]⟩ : ByteArray) ++ nm) (by have := HNL.out; rw [ByteArray.size_append, show (⟨#[40]⟩ : ByteArray).size = 1 from rfl]; omega)).mono ?_
      rintro e w3 ⟨rfl, hI3, hk3⟩
      have hbx3 := kept_box hk3 HBX3.out HWB.out (by decide)
      have y2 : w3.cell? ⟨W.heap.size, 2, none⟩ = some (.slice T t.f2.length tc) := (blk_cell hbx3 2).trans rfl
      have HI3 : Hid (InTx w0 gb (some nad) c0 l0 A1 c1 l1 a2 (some ad) c3 l3 wb (l ++ (40 :: nm.data.toList)) w3) := Lib.hid (by
        rw [show (⟨#[40]⟩ ++ nm : ByteArray).data.toList = 40 :: nm.data.toList by rw [ByteArray.data_append]; simp] at hI3
        exact hI3)
      clear hk3 hI3 hbx3 HI2 HBX2 HBX3 HS3
      go_wp2
      clear y2
      go_loopw [30] (fun i wr => ∃ (j : Nat) (l' : List UInt8), j ≤ t.f2.length ∧ i = .int .i64 j ∧ Hid (l' ++ (txTs l0 l1 a2 l3 (t.f2.drop j) ++ [41]) = l ++ ys) ∧ Hid (InTx w0 gb (some nad) c0 l0 A1 c1 l1 a2 (some ad) c3 l3 wb l' wr)) (fun i _ => t.f2.length - (intOf i).toNat)
      case atStart => exact ⟨0, _, Nat.zero_le _, rfl, Lib.hid (by rw [HE.out, List.drop_zero]; simp), HI3⟩
      case round =>
        clear HI3
        obtain ⟨j, l', hj, rfl, HO, HI⟩ := hrel
        by_cases hjl : j < t.f2.length
        · obtain ⟨kad, K2, kc, e1, hk0, hk1, hk2, hkc, hkr⟩ := at_T55 HT.out (j : Int) (by omega) (by omega)
          subst e1
          obtain ⟨k, hk⟩ : ∃ k, k = t.f2[j] := ⟨_, rfl⟩
          rw [rdT_at _ j hjl, ← hk] at hk0 hk1 hk2 hkc hkr
          rw [Int.toNat_natCast] at hk0 hk1 hk2
          replace hk0 := (HI.out.bel.cell (World.block_lt_of_cell? _ _ hk0)).trans hk0
          replace hk1 := (HI.out.bel.cell (World.block_lt_of_cell? _ _ hk1)).trans hk1
          replace hk2 := (HI.out.bel.cell (World.block_lt_of_cell? _ _ hk2)).trans hk2
          have HO2 : Hid ((l' ++ [32] ++ txT l0 l1 a2 l3 k) ++ (txTs l0 l1 a2 l3 (t.f2.drop (j + 1)) ++ [41]) = l ++ ys) := Lib.hid (by
            have := HO.out
            rw [List.drop_eq_getElem_cons hjl, ← hk, txTs] at this
            rw [← this]; simp)
          have HCN : Hid (cntT k ≤ n) := Lib.hid (by
            have h1 := cntTs_mem (List.getElem_mem hjl)
            have h2 := cntT_eq t
            have h3 := HTN.out
            rw [← hk] at h1; omega)
          have HKO : Hid (txOk l0 l1 a2 l3 k = true) := Lib.hid (txOks_mem HKS.out k (by rw [hk]; exact List.getElem_mem _))
          have HLE : Hid (l'.length + 1 + (txT l0 l1 a2 l3 k).length ≤ 10000000000000) := Lib.hid (by
            have h1 := congrArg List.length HO2.out
            have h2 := HL.out
            simp only [List.length_append, List.length_singleton] at h1; omega)
          have HKR := Lib.hid hkr
          have HKC := Lib.hid hkc
          have HJ := Lib.hid hjl
          have hj0 : 0 ≤ (j : Int) := Int.natCast_nonneg _
          have hj1 : (j : Int) < (t.f2.length : Int) := by omega
          have hI3 := HI.out.step (W' := wr.alloc (.cells #[.int .i64 k.f0, .int .i64 k.f1, .slice K2 k.f2.length kc] 55)) ((Below.refl _ _).alloc (Nat.le_refl _) _)
          have hkb := blk_new wr (.cells #[.int .i64 k.f0, .int .i64 k.f1, .slice K2 k.f2.length kc] 55)
          have HKB : Hid (wr.heap.size ≠ w0.heap.size) := Lib.hid (by
            obtain ⟨cs, hbk⟩ := builder_blk HI.out.b
            have := blk_lt hbk
            omega)
          have HKX := Lib.hid hkb
          have HI3 := Lib.hid hI3
          have hen := fun (u : Value) (W : World) => txenters u w0.heap.size gb wb W
          clear hk hkr hkc hjl hj hI3 hkb
          go_wp2_with fail
          refine (tws HI3.out ⟨#[32]⟩ (by have := HLE.out; rw [show (⟨#[32]⟩ : ByteArray).size = 1 from rfl]; omega)).mono ?_
          rintro e w4 ⟨rfl, hI4, hk4⟩
          have hkb4 := kept_box hk4 HKX.out HKB.out (by decide)
          have k0 : w4.cell? ⟨wr.heap.size, 0, none⟩ = some (.int .i64 k.f0) := (blk_cell hkb4 0).trans rfl
          have k1 : w4.cell? ⟨wr.heap.size, 1, none⟩ = some (.int .i64 k.f1) := (blk_cell hkb4 1).trans rfl
          have k2 : w4.cell? ⟨wr.heap.size, 2, none⟩ = some (.slice K2 k.f2.length kc) := (blk_cell hkb4 2).trans rfl
          have f4 := hI4.f0
          have HI4 := Lib.hid hI4
          clear hkb4 hk4 hI4 HI3 hk0 hk1 hk2
          go_wp2_with fail
          refine (HIH.out k HCN.out w0 K2 kc HKC.out HKR.out gb _ c0 l0 A1 c1 l1 a2 _ c3 l3 h0 h1 h3 HKO.out hq0 hq3 wb (l' ++ [32]) (by have := HLE.out; simp only [List.length_append, List.length_singleton]; omega) _ HI4.out).mono ?_
          rintro e w5 ⟨rfl, hI5⟩
          have HI5 := Lib.hid hI5
          clear hI5 HI4 k0 k1 k2 f4 hen
          go_wp2
          go_roundw
          case rel => exact ⟨j + 1, _, HJ.out, by go_num, HO2, HI5⟩
          case measure => have := HJ.out; simp [intOf]; omega
        · obtain rfl : j = t.f2.length := by omega
          have HO2 : Hid (l' ++ [41] = l ++ ys) := Lib.hid (by have := HO.out; rwa [List.drop_length, txTs, List.nil_append] at this)
          have HLE : Hid (l'.length + 1 ≤ 10000000000000) := Lib.hid (by
            have h1 := congrArg List.length HO2.out
            have h2 := HL.out
            simp only [List.length_append, List.length_singleton] at h1; omega)
          clear hj hjl
          go_wp2_with fail
          refine (tws HI.out ⟨#[41]⟩ (by have := HLE.out; rw [show (⟨#[41]⟩ : ByteArray).size = 1 from rfl]; omega)).mono ?_
          rintro e w4 ⟨rfl, hI4, -⟩
          rw [show (⟨#[41]⟩ : ByteArray).data.toList = [41] from rfl, HO2.out] at hI4
          have HI4 := Lib.hid hI4
          clear hI4 HI
          go_wp2
          first
            | exact bodyPost_end (v := .tuple #[]) (by simp [results, Tryd.results115, go_sem]) rfl ⟨rfl, HI4.out⟩
            | exact bodyPost_ret (v := .tuple #[]) (by simp [results, Tryd.results115, go_sem]) rfl ⟨rfl, HI4.out⟩
set_option maxHeartbeats 8000000 in
set_option maxRecDepth 100000 in
theorem text_calls (A0 : Option Addr) (c0 : Nat) (l0 : List ByteArray) (A1 : Option Addr) (c1 : Nat) (l1 : List ByteArray) (a2 : Int) (A3 : Option Addr) (c3 : Nat) (l3 : List GRule) (hok : gramOk l0 l1 a2 l3 = true) (h0 : l0.length ≤ c0) (h1 : l1.length ≤ c1) (h3 : l3.length ≤ c3) (t : TTree) (T : Option Addr) (tc : Nat) (htc : t.f2.length ≤ tc) (hcnt : cntT t ≤ 1000000) (hsy : symOk t.f1 = true)
    (hk : treeC l0 l1 a2 l3 t = 0 → txOk l0 l1 a2 l3 t = true ∧ (txT l0 l1 a2 l3 t).length ≤ 10000000000000)
    (w : World) (hG : Laid w) (hr0 : Kd.C Kd.string w A0 l0.length l0) (hr1 : Kd.C Kd.string w A1 l1.length l1) (hr3 : Kd.C k32 w A3 l3.length l3) (ht : Kd.C k55 w T t.f2.length t.f2) :
    Calls Tryd.prog 60 #[.agg #[.slice A0 l0.length c0, .slice A1 l1.length c1, .int .i64 a2, .slice A3 l3.length c3], .agg #[.int .i64 t.f0, .int .i64 t.f1, .slice T t.f2.length tc]] w fun e w' => e = .returned (.string (if treeC l0 l1 a2 l3 t = 0 then ⟨(txT l0 l1 a2 l3 t).toArray⟩ else ByteArray.empty)) ∧ Below w.heap.size w w' := by
  have hu := Tryd.underlying25
  have hu2 := Tryd.underlying55
  have hI : InT w A0 c0 l0 A1 c1 l1 a2 A3 c3 l3 t T tc _ := InT.mk0 w hr0 hr1 hr3 ht
  have HG := Lib.hid hG
  have HCH := Lib.hid (fun (W : World) hG hr0 hr1 hr3 ht => treeCheck_calls A0 c0 l0 A1 c1 l1 a2 A3 c3 l3 hok h0 h1 h3 t T tc htc hcnt hsy W hG hr0 hr1 hr3 ht)
  have HB := Lib.hid (gram_bounds hok)
  have HK := Lib.hid hk
  obtain ⟨ch, hch⟩ : ∃ ch, ch = treeC l0 l1 a2 l3 t := ⟨_, rfl⟩
  rw [← hch] at HK HCH ⊢
  have hz0 := hI.g.c0
  have hz1 := hI.g.c1
  have hz2 := hI.g.c2
  have hz3 := hI.g.c3
  have y0 := hI.t0
  have y1 := hI.t1
  have y2 := hI.t2
  have HI := Lib.hid hI
  have HTC := Lib.hid htc
  clear hr0 hr1 hr3 ht hG hok hcnt hsy hI hch hk htc
  go_enter Tryd.func60, Tryd.ntmps60
  go_wp2_with fail
  refine (HCH.out _ (Laid.below HG.out HI.out.g.bel) HI.out.g.r0 HI.out.g.r1 HI.out.g.r3 HI.out.tr).mono ?_
  rintro e w2 ⟨rfl, hb2⟩
  have hI2 := HI.out.step hb2
  clear hb2 HI hz0 hz1 hz2 hz3 y0 y1 y2
  by_cases hne : ch ≠ 0
  · have hneb : (ch != 0) = true := bne_iff_ne.2 hne
    have HE : Hid (¬ ch = 0) := Lib.hid hne
    have HI2 := Lib.hid hI2
    clear hne hI2
    go_wp2
    go_ret
    try rw [if_neg HE.out]
    exact ⟨rfl, HI2.out.g.bel⟩
  replace hne := Decidable.not_not.1 hne
  subst hne
  have HPS : Hid ((if (0 : Int) = 0 then (⟨(txT l0 l1 a2 l3 t).toArray⟩ : ByteArray) else ByteArray.empty) = ⟨(txT l0 l1 a2 l3 t).toArray⟩) := Lib.hid (if_pos rfl)
  have y0 := hI2.t0
  have y1 := hI2.t1
  have y2 := hI2.t2
  have HI2 := Lib.hid hI2
  obtain ⟨hko, hkl⟩ := HK.out rfl
  have HKO := Lib.hid hko
  have HKL := Lib.hid hkl
  have hen := fun (u : Value) (bb gb wb : Nat) (W : World) => txenters u bb gb wb W
  have hbelt : w.heap.size + 1 < w2.heap.size := blk_lt hI2.tb
  have tb2 := blk_alloc (blk_alloc hI2.tb (.cells #[.pointer none, .slice none 0 0] 174)) (.cells #[.func (.func 115) #[] #[.pointer (some ⟨w2.heap.size, 0, none⟩), .pointer (some ⟨w.heap.size, 0, none⟩), .pointer (some ⟨w2.heap.size + 1, 0, none⟩)]] 161)
  have u0 : ((w2.alloc (.cells #[.pointer none, .slice none 0 0] 174)).alloc (.cells #[.func (.func 115) #[] #[.pointer (some ⟨w2.heap.size, 0, none⟩), .pointer (some ⟨w.heap.size, 0, none⟩), .pointer (some ⟨w2.heap.size + 1, 0, none⟩)]] 161)).cell? ⟨w.heap.size + 1, 0, none⟩ = some (.int .i64 t.f0) := (blk_cell tb2 0).trans rfl
  have u1 : ((w2.alloc (.cells #[.pointer none, .slice none 0 0] 174)).alloc (.cells #[.func (.func 115) #[] #[.pointer (some ⟨w2.heap.size, 0, none⟩), .pointer (some ⟨w.heap.size, 0, none⟩), .pointer (some ⟨w2.heap.size + 1, 0, none⟩)]] 161)).cell? ⟨w.heap.size + 1, 1, none⟩ = some (.int .i64 t.f1) := (blk_cell tb2 1).trans rfl
  have u2 : ((w2.alloc (.cells #[.pointer none, .slice none 0 0] 174)).alloc (.cells #[.func (.func 115) #[] #[.pointer (some ⟨w2.heap.size, 0, none⟩), .pointer (some ⟨w.heap.size, 0, none⟩), .pointer (some ⟨w2.heap.size + 1, 0, none⟩)]] 161)).cell? ⟨w.heap.size + 1, 2, none⟩ = some (.slice T t.f2.length tc) := (blk_cell tb2 2).trans rfl
  clear hI2 hko hkl tb2
  go_wp2_with fail
  have hI : InTx w2 w.heap.size A0 c0 l0 A1 c1 l1 a2 A3 c3 l3 (w2.heap.size + 1) [] ((w2.alloc (.cells #[.pointer none, .slice none 0 0] 174)).alloc (.cells #[.func (.func 115) #[] #[.pointer (some ⟨w2.heap.size, 0, none⟩), .pointer (some ⟨w.heap.size, 0, none⟩), .pointer (some ⟨w2.heap.size + 1, 0, none⟩)]] 161)) := by
    refine ⟨((Below.refl _ w2).alloc (Nat.le_refl _) _).alloc (by simp) _, HI2.out.g.box.1, HI2.out.g.r0, HI2.out.g.r1, HI2.out.g.r3, (Lib.IsBuilderF.of (Lib.fresh_isBuilder 174 5 w2)).alloc _, ?_⟩
    have := blk_new (w2.alloc (.cells #[.pointer none, .slice none 0 0] 174)) (.cells #[.func (.func 115) #[] #[.pointer (some ⟨w2.heap.size, 0, none⟩), .pointer (some ⟨w.heap.size, 0, none⟩), .pointer (some ⟨w2.heap.size + 1, 0, none⟩)]] 161)
    rwa [show (w2.alloc (.cells #[.pointer none, .slice none 0 0] 174)).heap.size = w2.heap.size + 1 by simp] at this
  refine (text1_calls _ t (Nat.le_refl _) w2 T tc HTC.out HI2.out.tr w.heap.size A0 c0 l0 A1 c1 l1 a2 A3 c3 l3 h0 h1 h3 HKO.out HB.out.1 HB.out.2.2.1 (w2.heap.size + 1) [] (by simpa using HKL.out) _ hI).mono ?_
  rintro e w5 ⟨rfl, hI5⟩
  rw [List.nil_append] at hI5
  have HI5 := Lib.hid hI5
  clear hI hI5 hen y0 y1 y2 u0 u1 u2
  go_wp2_with fail
  refine (Tryd.Builder_String_any_k w2.heap.size w2.heap.size _ _ HI5.out.b HI5.out.bel.size).mono ?_
  rintro e w6 ⟨rfl, -, hb6, -⟩
  have HB6 : Hid (Below w.heap.size w w6) := Lib.hid (HI2.out.g.bel.trans ((HI5.out.bel.mono HI2.out.g.bel.size).trans (hb6.mono HI2.out.g.bel.size)))
  clear hb6 HI5
  go_wp2
  go_ret
  exact ⟨by first | rfl | rw [HPS.out]; rfl, HB6.out⟩
end Go.Proofs.YtmdjmbdeeodehaaDoor.G
end
section
set_option linter.unusedVariables false
set_option linter.unusedSimpArgs false
namespace Go.Proofs.YtmdjmbdeeodehaaDoor.G
open Go Go.Proofs Go.RowKit Go.Proofs.YtmdjmbdeeodehaaDoorW.PrintWords Go.Proofs.YtmdjmbdeeodehaaDoorW.PrintLast Go.Proofs.YtmdjmbdeeodehaaDoorW.PrintMore Go.Proofs.YtmdjmbdeeodehaaDoor.Pure
mutual
def yieldT : TTree → List Int
  | ⟨r, s, ks⟩ => if r < 0 then [s] else yieldTs ks
def yieldTs : List TTree → List Int
  | [] => []
  | k :: ks => yieldT k ++ yieldTs ks
end
theorem yieldT_eq (t : TTree) : yieldT t = if t.f0 < 0 then [t.f1] else yieldTs t.f2 := by cases t; simp [yieldT]
mutual
theorem yieldT_len : ∀ t : TTree, (yieldT t).length ≤ cntT t
  | ⟨r, s, ks⟩ => by
    simp only [yieldT, cntT]
    have := yieldTs_len ks
    split
    · simp
    · omega
theorem yieldTs_len : ∀ l : List TTree, (yieldTs l).length ≤ cntTs l
  | [] => by simp [yieldTs]
  | k :: ks => by
    have := yieldT_len k
    have := yieldTs_len ks
    simp only [yieldTs, cntTs, List.length_append]; omega
end
structure InYl (w0 : World) (ob wb : Nat) (v : Value) (out : List Int) (W : World) : Prop where
  bel : Below w0.heap.size w0 W
  ho : w0.heap.size ≤ ob
  hw : w0.heap.size ≤ wb
  o : W.heap[ob]? = some (.cells #[v] 30 (0, 0))
  f : W.heap[wb]? = some (.cells #[.func (.func 106) #[] #[.pointer (some ⟨ob, 0, none⟩), .pointer (some ⟨wb, 0, none⟩)]] 161 (0, 0))
  row : Kd.R (Kd.int .i64) 52 W w0.heap.size (fun _ => True) v out
section
variable {w0 : World} {ob wb : Nat} {v : Value} {out : List Int} {W W' : World}
theorem InYl.step (h : InYl w0 ob wb v out W) (hb : Below W.heap.size W W') : InYl w0 ob wb v out W' := ⟨h.bel.trans (hb.mono h.bel.size), h.ho, h.hw, blk_below h.o hb, blk_below h.f hb, Kd.R_below h.row hb⟩
theorem InYl.o0 (h : InYl w0 ob wb v out W) : W.cell? ⟨ob, 0, none⟩ = some v := (blk_cell h.o 0).trans rfl
theorem InYl.f0 (h : InYl w0 ob wb v out W) : W.cell? ⟨wb, 0, none⟩ = some (.func (.func 106) #[] #[.pointer (some ⟨ob, 0, none⟩), .pointer (some ⟨wb, 0, none⟩)]) := (blk_cell h.f 0).trans rfl
theorem InYl.put {v2 : Value} {out2 : List Int} (h : InYl w0 ob wb v out W) (hb : Below w0.heap.size w0 W') (hg : W.grownBy W' v.ownBlock) (hr : Kd.R (Kd.int .i64) 52 W' w0.heap.size (fun _ => True) v2 out2) : InYl w0 ob wb v2 out2 (W'.setCell ⟨ob, 0, none⟩ v2) := by
  have ho2 := blk_grown h.o hg (Kd.R_ne h.row h.o (by decide))
  have hf2 := blk_grown h.f hg (Kd.R_ne h.row h.f (by decide))
  have hne : wb ≠ ob := blk_ne h.f h.o (by decide)
  exact ⟨hb.setCell h.ho _, h.ho, h.hw, blk_put (cs := #[v]) ho2 0 _ rfl, blk_far hf2 hne _, Kd.R_mono (Kd.R_far (p := ⟨ob, 0, none⟩) (Kd.R_types hr ho2 (by decide)) (fun _ hk => hk.2) _) (fun _ _ => trivial)⟩
end
theorem yenters (u : Value) (ob wb : Nat) (W : World) : Sem.run Tryd.prog (callFunc 106 #[u, .pointer (some ⟨ob, 0, none⟩), .pointer (some ⟨wb, 0, none⟩)]) W = .ok (.enter 106 #[u, .pointer (some ⟨ob, 0, none⟩), .pointer (some ⟨wb, 0, none⟩)]) W := by kernel_rfl
set_option maxHeartbeats 4000000 in
set_option maxRecDepth 100000 in
theorem yield1_calls : ∀ (n : Nat) (t : TTree) (htn : cntT t ≤ n) (w0 : World) (T : Option Addr) (tc : Nat) (htc : t.f2.length ≤ tc) (ht : Kd.C k55 w0 T t.f2.length t.f2) (ob wb : Nat) (v : Value) (out : List Int) (hl : out.length + (yieldT t).length ≤ 1000000) (W : World) (hI : InYl w0 ob wb v out W),
    Calls Tryd.prog 106 #[.agg #[.int .i64 t.f0, .int .i64 t.f1, .slice T t.f2.length tc], .pointer (some ⟨ob, 0, none⟩), .pointer (some ⟨wb, 0, none⟩)] W fun e w' => e = .returned (.tuple #[]) ∧ ∃ v', InYl w0 ob wb v' (out ++ yieldT t) w' := by
  intro n
  induction n with
  | zero => intro t htn; have := cntT_pos t; omega
  | succ n ih =>
    intro t htn w0 T tc htc ht ob wb v out hl W hI
    have hu := Tryd.underlying55
    have HIH := Lib.hid ih
    have HTN := Lib.hid htn
    have HT := Lib.hid ht
    have HTC := Lib.hid htc
    have hB0 : Below W.heap.size W (W.alloc (.cells #[.int .i64 t.f0, .int .i64 t.f1, .slice T t.f2.length tc] 55)) := (Below.refl _ _).alloc (Nat.le_refl _) _
    have hI1 := hI.step hB0
    have hTW : Hid (∀ W', InYl w0 ob wb v out W' → Kd.C k55 W' T t.f2.length t.f2) := Lib.hid (fun W' h => Kd.C_below ht h.bel)
    have HY := Lib.hid (yieldT_eq t)
    obtain ⟨ys, hys⟩ : ∃ ys, ys = yieldT t := ⟨_, rfl⟩
    rw [← hys] at HY hl ⊢
    have hbx := blk_new W (.cells #[.int .i64 t.f0, .int .i64 t.f1, .slice T t.f2.length tc] 55)
    by_cases hlf : t.f0 < 0
    · have HLF : Hid (tree_Tree_leaf.f t.f0 t.f1 t.f2 = some true) := Lib.hid (by unfold tree_Tree_leaf.f; rw [decide_eq_true hlf])
      have HE : Hid (ys = [t.f1]) := Lib.hid (by rw [HY.out, if_pos hlf])
      have hl2 : out.length + 1 ≤ 1000000 := by rw [HE.out] at hl; simpa using hl
      have HBX := Lib.hid hbx
      have HI1 := Lib.hid hI1
      clear hlf hys hI hI1 ih htn ht htc hB0 hl hbx
      go_enter Tryd.func106, Tryd.ntmps106
      go_wp2_with fail
      refine (tree_Tree_leaf.calls t.f0 t.f1 T tc t.f2 true _ (hTW.out _ HI1.out) HTC.out HLF.out).mono ?_
      rintro e w2 ⟨rfl, hb2⟩
      have hI2 := HI1.out.step hb2
      have hbx2 := blk_below HBX.out hb2
      have y1 : w2.cell? ⟨W.heap.size, 1, none⟩ = some (.int .i64 t.f1) := (blk_cell hbx2 1).trans rfl
      have z0 := hI2.o0
      have zf := blk_frozen hI2.o 0
      have HI2 := Lib.hid hI2
      have hsz : w0.heap.size ≤ w2.heap.size := HI2.out.bel.size
      clear hb2 hI2 HI1 HBX hbx2
      go_wp2_with (((with_reducible refine gate_dst (N := 12) rfl ?_); refine Kd.R_append (Kd.int .i64) (w0 := w0) w0.heap.size rfl (.tmp 8) (.tmp 11) 30 52 (.int .i64 0) 8 rfl Tryd.underlying30 info52 rfl (by decide) (by omega) v out t.f1 [.int .i64 t.f1] (fun _ => True) (fun _ => False) rfl ?aX ?aP (fun _ hk => hk.elim) ?aF ?aO ?aB ?aS ?aL ?_; (case aP => exact rfl); (case aX => first | rfl | (simp; done) | (go_simp; done) | (go_simp; simp; done)); (case aF => exact (fun _ _ => trivial)); (case aO => exact HI2.out.row); (case aB => exact HI2.out.bel); (case aS => exact hsz); (case aL => omega); intro v2 w6 ho hb hg hat; obtain ⟨A9, c9, e9⟩ := Kd.R_slice ho; subst e9; have hput := HI2.out.put hb hg ho; have zo := blk_grown HI2.out.o hg (Kd.R_ne HI2.out.row HI2.out.o (by decide)); have zc : w6.cell? ⟨ob, 0, none⟩ = some v := (blk_cell zo 0).trans rfl; have zg := blk_frozen zo 0; clear hat hg hb ho zo))
      rw [HE.out]
      clear zc zg
      simp only [List.length_append, List.length_singleton] at hput
      exact bodyPost_ret (v := .tuple #[]) (by simp [results, Tryd.results106, go_sem]) rfl ⟨rfl, _, hput⟩
    · have HLF : Hid (tree_Tree_leaf.f t.f0 t.f1 t.f2 = some false) := Lib.hid (by unfold tree_Tree_leaf.f; rw [decide_eq_false hlf])
      have HE : Hid (ys = yieldTs t.f2) := Lib.hid (by rw [HY.out, if_neg hlf])
      have HLL : Hid (out.length + ys.length ≤ 1000000) := Lib.hid hl
      have HBX := Lib.hid hbx
      have HI1 := Lib.hid hI1
      have htl : t.f2.length ≤ 9223372036854775807 := Kd.C_max HT.out
      clear hlf hys hI hI1 ih htn ht htc hB0 hl hbx
      go_enter Tryd.func106, Tryd.ntmps106
      go_wp2_with fail
      refine (tree_Tree_leaf.calls t.f0 t.f1 T tc t.f2 false _ (hTW.out _ HI1.out) HTC.out HLF.out).mono ?_
      rintro e w2 ⟨rfl, hb2⟩
      have hI2 := HI1.out.step hb2
      have hbx2 := blk_below HBX.out hb2
      have y2 : w2.cell? ⟨W.heap.size, 2, none⟩ = some (.slice T t.f2.length tc) := (blk_cell hbx2 2).trans rfl
      have HI2 := Lib.hid hI2
      clear hb2 hI2 HI1 HBX hbx2
      go_wp2
      clear y2
      go_loopw [16] (fun i wr => ∃ (j : Nat) (v1 : Value) (out1 : List Int), j ≤ t.f2.length ∧ i = .int .i64 j ∧ Hid (out1 ++ yieldTs (t.f2.drop j) = out ++ ys) ∧ Hid (InYl w0 ob wb v1 out1 wr)) (fun i _ => t.f2.length - (intOf i).toNat)
      case atStart => exact ⟨0, v, out, Nat.zero_le _, rfl, Lib.hid (by rw [HE.out, List.drop_zero]), HI2⟩
      case round =>
        clear HI2
        obtain ⟨j, v1, out1, hj, rfl, HO, HI⟩ := hrel
        by_cases hjl : j < t.f2.length
        · obtain ⟨kad, K2, kc, e1, hk0, hk1, hk2, hkc, hkr⟩ := at_T55 HT.out (j : Int) (by omega) (by omega)
          subst e1
          obtain ⟨k, hk⟩ : ∃ k, k = t.f2[j] := ⟨_, rfl⟩
          rw [rdT_at _ j hjl, ← hk] at hk0 hk1 hk2 hkc hkr
          rw [Int.toNat_natCast] at hk0 hk1 hk2
          replace hk0 := (HI.out.bel.cell (World.block_lt_of_cell? _ _ hk0)).trans hk0
          replace hk1 := (HI.out.bel.cell (World.block_lt_of_cell? _ _ hk1)).trans hk1
          replace hk2 := (HI.out.bel.cell (World.block_lt_of_cell? _ _ hk2)).trans hk2
          have HO2 : Hid ((out1 ++ yieldT k) ++ yieldTs (t.f2.drop (j + 1)) = out ++ ys) := Lib.hid (by have := HO.out; rw [List.drop_eq_getElem_cons hjl, ← hk, yieldTs, ← List.append_assoc] at this; exact this)
          have HCN : Hid (cntT k ≤ n) := Lib.hid (by
            have h1 := cntTs_mem (List.getElem_mem hjl)
            have h2 := cntT_eq t
            have h3 := HTN.out
            rw [← hk] at h1; omega)
          have HKR := Lib.hid hkr
          have HKC := Lib.hid hkc
          have HJ := Lib.hid hjl
          have hj0 : 0 ≤ (j : Int) := Int.natCast_nonneg _
          have hj1 : (j : Int) < (t.f2.length : Int) := by omega
          have hI3 := HI.out.step (W' := wr.alloc (.cells #[.int .i64 k.f0, .int .i64 k.f1, .slice K2 k.f2.length kc] 55)) ((Below.refl _ _).alloc (Nat.le_refl _) _)
          have hf3 := hI3.f0
          have HI3 := Lib.hid hI3
          have hen := fun (u : Value) (W : World) => yenters u ob wb W
          clear hk hkr hkc hjl hj hI3
          go_wp2_with fail
          refine (HIH.out k HCN.out w0 K2 kc HKC.out HKR.out ob wb v1 out1 (by
            have h1 := congrArg List.length HO2.out
            have h2 := HLL.out
            simp only [List.length_append] at h1; omega) _ HI3.out).mono ?_
          rintro e w5 ⟨rfl, v2, hI5⟩
          have HI5 := Lib.hid hI5
          clear hI5 HI3 hf3 hk0 hk1 hk2 hen
          go_wp2
          go_roundw
          case rel => exact ⟨j + 1, v2, out1 ++ yieldT k, HJ.out, by go_num, HO2, HI5⟩
          case measure => have := HJ.out; simp [intOf]; omega
        · obtain rfl : j = t.f2.length := by omega
          have HO2 : Hid (out1 = out ++ ys) := Lib.hid (by have := HO.out; rwa [List.drop_length, yieldTs, List.append_nil] at this)
          clear hj hjl
          go_wp2
          rw [← HO2.out]
          first
            | exact bodyPost_end (v := .tuple #[]) (by simp [results, Tryd.results106, go_sem]) rfl ⟨rfl, _, HI.out⟩
            | exact bodyPost_ret (v := .tuple #[]) (by simp [results, Tryd.results106, go_sem]) rfl ⟨rfl, _, HI.out⟩
set_option maxHeartbeats 4000000 in
set_option maxRecDepth 100000 in
theorem yield_calls (t : TTree) (hcnt : cntT t ≤ 1000000) (T : Option Addr) (tc : Nat) (htc : t.f2.length ≤ tc) (w : World) (ht : Kd.C k55 w T t.f2.length t.f2) :
    Calls Tryd.prog 38 #[.agg #[.int .i64 t.f0, .int .i64 t.f1, .slice T t.f2.length tc]] w fun e w' => ∃ v, e = .returned v ∧ Kd.R (Kd.int .i64) 52 w' w.heap.size (fun _ => True) v (yieldT t) ∧ Below w.heap.size w w' := by
  have hu := Tryd.underlying55
  have HT := Lib.hid ht
  have HTC := Lib.hid htc
  have HL : Hid ((yieldT t).length ≤ 1000000) := Lib.hid (Nat.le_trans (yieldT_len t) hcnt)
  have hen := fun (u : Value) (ob wb : Nat) (W : World) => yenters u ob wb W
  clear ht htc hcnt
  go_enter Tryd.func38, Tryd.ntmps38
  go_wp2_with fail
  have hI : InYl w (w.heap.size + 1) (w.heap.size + 1 + 1) (.slice none 0 0) [] (((w.alloc (.cells #[.int .i64 t.f0, .int .i64 t.f1, .slice T t.f2.length tc] 55)).alloc (.cells #[.slice none 0 0] 30)).alloc (.cells #[.func (.func 106) #[] #[.pointer (some ⟨w.heap.size + 1, 0, none⟩), .pointer (some ⟨w.heap.size + 1 + 1, 0, none⟩)]] 161)) := by
    refine ⟨(((Below.refl _ w).alloc (Nat.le_refl _) _).alloc (by simp) _).alloc (by simp; omega) _, by omega, by omega, ?_, ?_, Kd.R_nil _ _ _ _ _⟩
    · have := blk_alloc (blk_new (w.alloc (.cells #[.int .i64 t.f0, .int .i64 t.f1, .slice T t.f2.length tc] 55)) (.cells #[.slice none 0 0] 30)) (.cells #[.func (.func 106) #[] #[.pointer (some ⟨w.heap.size + 1, 0, none⟩), .pointer (some ⟨w.heap.size + 1 + 1, 0, none⟩)]] 161)
      rwa [show (w.alloc (.cells #[.int .i64 t.f0, .int .i64 t.f1, .slice T t.f2.length tc] 55)).heap.size = w.heap.size + 1 by simp] at this
    · have := blk_new ((w.alloc (.cells #[.int .i64 t.f0, .int .i64 t.f1, .slice T t.f2.length tc] 55)).alloc (.cells #[.slice none 0 0] 30)) (.cells #[.func (.func 106) #[] #[.pointer (some ⟨w.heap.size + 1, 0, none⟩), .pointer (some ⟨w.heap.size + 1 + 1, 0, none⟩)]] 161)
      rwa [show ((w.alloc (.cells #[.int .i64 t.f0, .int .i64 t.f1, .slice T t.f2.length tc] 55)).alloc (.cells #[.slice none 0 0] 30)).heap.size = w.heap.size + 1 + 1 by simp] at this
  refine (yield1_calls _ t (Nat.le_refl _) w T tc HTC.out HT.out (w.heap.size + 1) (w.heap.size + 1 + 1) (.slice none 0 0) [] (by simpa using HL.out) _ hI).mono ?_
  rintro e w5 ⟨rfl, v5, hI5⟩
  rw [List.nil_append] at hI5
  obtain ⟨A9, c9, e9⟩ := Kd.R_slice hI5.row
  subst e9
  have z0 := hI5.o0
  have HI5 := Lib.hid hI5
  clear hI hI5 hen
  go_wp2
  go_ret
  exact ⟨_, rfl, HI5.out.row, HI5.out.bel⟩
end Go.Proofs.YtmdjmbdeeodehaaDoor.G
end
section
set_option linter.unusedVariables false
set_option linter.unusedSimpArgs false
namespace Go.Proofs.YtmdjmbdeeodehaaDoor.G
open Go Go.Proofs Go.RowKit Go.Proofs.YtmdjmbdeeodehaaDoorW.PrintWords Go.Proofs.YtmdjmbdeeodehaaDoorW.PrintLast Go.Proofs.YtmdjmbdeeodehaaDoorW.PrintMore Go.Proofs.YtmdjmbdeeodehaaDoor.Pure
structure InQ (w : World) (A0 : Option Addr) (c0 : Nat) (l0 : List ByteArray) (A1 : Option Addr) (c1 : Nat) (l1 : List ByteArray) (a2 : Int) (Ao : Option Addr) (co : Nat) (m3 : List S87) (t : RTree) (T : Option Addr) (tc : Nat) (W : World) : Prop where
  v : InV w A0 l0.length c0 A1 l1.length c1 a2 Ao co m3 t T tc W
  r0 : Kd.C Kd.string W A0 l0.length l0
  r1 : Kd.C Kd.string W A1 l1.length l1
theorem InQ.step {w : World} {A0 : Option Addr} {c0 : Nat} {l0 : List ByteArray} {A1 : Option Addr} {c1 : Nat} {l1 : List ByteArray} {a2 : Int} {Ao : Option Addr} {co : Nat} {m3 : List S87} {t : RTree} {T : Option Addr} {tc : Nat} {W W' : World} (h : InQ w A0 c0 l0 A1 c1 l1 a2 Ao co m3 t T tc W) (hb : Below W.heap.size W W') : InQ w A0 c0 l0 A1 c1 l1 a2 Ao co m3 t T tc W' := ⟨h.v.step hb, Kd.C_below h.r0 hb, Kd.C_below h.r1 hb⟩
theorem InQ.mk0 {A0 : Option Addr} {c0 : Nat} {l0 : List ByteArray} {A1 : Option Addr} {c1 : Nat} {l1 : List ByteArray} {a2 : Int} {Ao : Option Addr} {co : Nat} {m3 : List S87} {t : RTree} {T : Option Addr} {tc : Nat} (w : World) (hr0 : Kd.C Kd.string w A0 l0.length l0) (hr1 : Kd.C Kd.string w A1 l1.length l1) (hm : Kd.C k87 w Ao m3.length m3) (ht : Kd.C k58 w T t.f2.length t.f2) :
    InQ w A0 c0 l0 A1 c1 l1 a2 Ao co m3 t T tc ((w.alloc (.cells #[.slice A0 l0.length c0, .slice A1 l1.length c1, .int .i64 a2, .slice Ao m3.length co] 63)).alloc (.cells #[.int .i64 t.f0, .int .i64 t.f1, .slice T t.f2.length tc] 58)) := by
  have h := InV.mk0 (A0 := A0) (n0 := l0.length) (c0 := c0) (A1 := A1) (n1 := l1.length) (c1 := c1) (a2 := a2) (c3 := co) (tc := tc) w hm ht
  exact ⟨h, Kd.C_below hr0 h.bel, Kd.C_below hr1 h.bel⟩
theorem rhas_f (l0 l1 : List ByteArray) (a2 : Int) (m3 : List S87) (s : Int) (hs : s < 0) (hl : l1.length ≤ 1000000) : wickerref02_Has.f l0 l1 a2 m3 s = some (decide (-1 - s < (l1.length : Int))) := by
  unfold wickerref02_Has.f
  rw [if_pos (by omega)]
  congr 1
  rw [show wrap64 (-(l1.length : Int)) = -(l1.length : Int) by unfold wrap64; omega, decide_eq_decide]
  omega
set_option maxHeartbeats 4000000 in
set_option maxRecDepth 100000 in
theorem rtreeCheck_calls (A0 : Option Addr) (c0 : Nat) (l0 : List ByteArray) (A1 : Option Addr) (c1 : Nat) (l1 : List ByteArray) (a2 : Int) (Ao : Option Addr) (co : Nat) (l3 : List GRule) (hok : gramOk l0 l1 a2 l3 = true) (h0 : l0.length ≤ c0) (h1 : l1.length ≤ c1) (h3 : (l3.map ofR).length ≤ co) (t : TTree) (rt : RTree) (hrt : rt = toR t) (T : Option Addr) (tc : Nat) (htc : rt.f2.length ≤ tc) (hcnt : cntT t ≤ 1000000)
    (w : World) (hr0 : Kd.C Kd.string w A0 l0.length l0) (hr1 : Kd.C Kd.string w A1 l1.length l1) (hm : Kd.C k87 w Ao (l3.map ofR).length (l3.map ofR)) (ht : Kd.C k58 w T rt.f2.length rt.f2) :
    Calls Tryd.prog 32 #[.agg #[.slice A0 l0.length c0, .slice A1 l1.length c1, .int .i64 a2, .slice Ao (l3.map ofR).length co], .agg #[.int .i64 rt.f0, .int .i64 rt.f1, .slice T rt.f2.length tc]] w fun e w' => e = .returned (.int .i64 (treeC l0 l1 a2 l3 t)) ∧ Below w.heap.size w w' := by
  have hu := Tryd.underlying63
  have hu2 := Tryd.underlying58
  have hb := gram_bounds hok
  have hI : InQ w A0 c0 l0 A1 c1 l1 a2 Ao co (l3.map ofR) rt T tc _ := InQ.mk0 w hr0 hr1 hm ht
  have HN : Hid ((l3.map ofR).length ≤ 1000000) := Lib.hid (by rw [List.length_map]; exact hb.2.2.1)
  have HO : Hid (∀ r ∈ l3.map ofR, r.f1.length ≤ 1000000) := Lib.hid (fun r hr => by
    obtain ⟨g, hg, rfl⟩ := List.mem_map.1 hr
    have := List.all_eq_true.1 hb.2.2.2.2.2.2 g hg
    simp only [ruleOk, Bool.and_eq_true, decide_eq_true_eq] at this
    exact this.1.2)
  obtain ⟨KC, hKC⟩ := Pure.Ev.out (ref_check_f l0 l1 a2 l3 hok)
  have HCH := Lib.hid (hKC KC (Nat.le_refl _))
  obtain ⟨ch, hch⟩ : ∃ ch, ch = checkC nmB mkB l0 l1 a2 l3 := ⟨_, rfl⟩
  have hcn : cntR rt = cntT t := by rw [hrt, cnt_toR]
  obtain ⟨K, hK⟩ := Pure.Ev.out (rcount_f _ rt (Nat.le_refl _) (by omega))
  have HK := Lib.hid (hK K (Nat.le_refl _))
  obtain ⟨rs, hrs⟩ : ∃ rs, rs = treeC l0 l1 a2 l3 t := ⟨_, rfl⟩
  have HRU : Hid (rs = if ch ≠ 0 then ch else if 65536 < cntR rt then 11 else if 0 ≤ rt.f0 then fitR (l3.map ofR) rt else if rt.f0 ≠ -1 ∨ 0 ≤ rt.f1 ∨ (l1.length : Int) ≤ -1 - rt.f1 ∨ 0 < rt.f2.length then 9 else 0) := Lib.hid (by
    have e0 : rt.f0 = t.f0 := by rw [hrt, toR_f0]
    have e1 : rt.f1 = t.f1 := by rw [hrt, toR_f1]
    have e2 : rt.f2.length = t.f2.length := by rw [hrt, toR_f2, toRs_length]
    have e3 : fitR (l3.map ofR) rt = fitT l3 t := by rw [hrt, fit_toR]
    rw [hrs, treeC, ← hch, hcn, e0, e1, e2, e3]
    by_cases x0 : ch ≠ 0
    · rw [if_pos x0, if_pos x0]
    rw [if_neg x0, if_neg x0]
    by_cases x1 : 65536 < cntT t
    · rw [if_pos x1, if_pos x1]
    rw [if_neg x1, if_neg x1]
    by_cases x2 : t.f0 < 0
    · rw [if_neg (not_not_intro x2), if_neg (show ¬ 0 ≤ t.f0 by omega)]
      by_cases x3 : ¬ t.f1 < 0 ∨ (l1.length : Int) ≤ -1 - t.f1
      · rw [if_pos x3, if_pos (by omega)]
      · rw [if_neg x3]
        by_cases x4 : t.f0 ≠ -1 ∨ 0 < t.f2.length
        · rw [if_pos x4, if_pos (by omega)]
        · rw [if_neg x4, if_neg (by omega)]
    · rw [if_pos x2, if_pos (show 0 ≤ t.f0 by omega)])
  rw [← hrs]
  rw [← hch] at HCH
  have hl1 : l1.length ≤ 1000000 := hb.2.1
  have HHAS := Lib.hid (fun hs => rhas_f l0 l1 a2 (l3.map ofR) rt.f1 hs hl1)
  generalize l3.map ofR = m3 at *
  have hz0 := hI.v.g0
  have hz1 := hI.v.g1
  have hz2 := hI.v.g2
  have hz3 := hI.v.g3
  have HI := Lib.hid hI
  clear hr0 hr1 hm ht hb hok hI hK hKC hrs hch hrt hcn hcnt
  go_enter Tryd.func32, Tryd.ntmps32
  go_wp2_with fail
  refine (wickerref02_Check.calls KC A0 c0 l0 A1 c1 l1 a2 Ao co m3 ch _ HI.out.r0 h0 HI.out.r1 h1 HI.out.v.r3 h3 HCH.out).mono ?_
  rintro e w2 ⟨rfl, hb2⟩
  have hI2 := HI.out.step hb2
  clear hb2 HI hz0 hz1 hz2 hz3
  by_cases hne : ch ≠ 0
  · have hneb : (ch != 0) = true := bne_iff_ne.2 hne
    have HE : Hid (rs = ch) := Lib.hid (by rw [HRU.out, if_pos hne])
    have HI2 := Lib.hid hI2
    clear hne hI2
    go_wp2
    go_ret
    rw [HE.out]
    exact ⟨rfl, HI2.out.v.bel⟩
  have hneb : (ch != 0) = false := by rw [Decidable.not_not.1 hne]; rfl
  have HE := Lib.hid (HRU.out.trans (if_neg hne))
  have y0 := hI2.v.t0
  have y1 := hI2.v.t1
  have y2 := hI2.v.t2
  have HI2 := Lib.hid hI2
  clear hne hI2 HRU
  go_wp2_with fail
  refine (wickerref03_Count.calls K rt.f0 rt.f1 T tc rt.f2 _ _ HI2.out.v.tr htc HK.out).mono ?_
  rintro e w3 ⟨rfl, hb3⟩
  have hI3 := HI2.out.step hb3
  have y0 := hI3.v.t0
  have y1 := hI3.v.t1
  have y2 := hI3.v.t2
  have z0 := hI3.v.g0
  have z1 := hI3.v.g1
  have z2 := hI3.v.g2
  have z3 := hI3.v.g3
  have HI3 := Lib.hid hI3
  clear hb3 HI2 hI3
  by_cases hgt : 65536 < cntR rt
  · have hgtb : decide ((cntR rt : Int) > 65536) = true := decide_eq_true (by omega)
    have HE2 : Hid (rs = 11) := Lib.hid (HE.out.trans (if_pos hgt))
    go_wp2
    go_ret
    rw [HE2.out]
    exact ⟨rfl, HI3.out.v.bel⟩
  have hgtb : decide ((cntR rt : Int) > 65536) = false := decide_eq_false (by omega)
  have HE2 := Lib.hid (HE.out.trans (if_neg hgt))
  by_cases hlf : 0 ≤ rt.f0
  · have hlfb : decide (rt.f0 ≥ 0) = true := decide_eq_true hlf
    have HE3 : Hid (rs = fitR m3 rt) := Lib.hid (HE2.out.trans (if_pos hlf))
    clear hlf
    go_wp2_with fail
    refine (fits_calls _ A0 l0.length c0 A1 l1.length c1 a2 Ao co m3 HN.out HO.out rt T tc (Nat.le_refl _) _ HI3.out.v.r3 HI3.out.v.tr).mono ?_
    rintro e w5 ⟨rfl, hb5⟩
    have HI5 := Lib.hid (HI3.out.step hb5)
    rw [← HE3.out]
    clear hb5 HI3 y0 y1 y2 z0 z1 z2 z3
    go_wp2
    go_ret
    exact ⟨rfl, HI5.out.v.bel⟩
  have hlfb : decide (rt.f0 ≥ 0) = false := decide_eq_false hlf
  have HE3 := Lib.hid (HE2.out.trans (if_neg hlf))
  clear hlf HE2 HE
  by_cases x0 : rt.f0 ≠ -1
  · have x0b : (rt.f0 != -1) = true := bne_iff_ne.2 x0
    have HE4 : Hid (rs = 9) := Lib.hid (HE3.out.trans (if_pos (Or.inl x0)))
    clear x0
    go_wp2
    go_ret
    rw [HE4.out]
    exact ⟨rfl, HI3.out.v.bel⟩
  have x0b : (rt.f0 != -1) = false := by rw [Decidable.not_not.1 x0]; rfl
  by_cases x1 : 0 ≤ rt.f1
  · have x1b : decide (rt.f1 ≥ 0) = true := decide_eq_true x1
    have HE4 : Hid (rs = 9) := Lib.hid (HE3.out.trans (if_pos (Or.inr (Or.inl x1))))
    clear x0 x1
    go_wp2
    go_ret
    rw [HE4.out]
    exact ⟨rfl, HI3.out.v.bel⟩
  have x1b : decide (rt.f1 ≥ 0) = false := decide_eq_false x1
  have hh := HHAS.out (by omega)
  obtain ⟨hs, hhs⟩ : ∃ hs, hs = decide (-1 - rt.f1 < (l1.length : Int)) := ⟨_, rfl⟩
  rw [← hhs] at hh
  have HH := Lib.hid hh
  clear hh
  cases hs with
  | false =>
    have HE4 : Hid (rs = 9) := Lib.hid (HE3.out.trans (if_pos (Or.inr (Or.inr (Or.inl (by have := of_decide_eq_false hhs.symm; omega))))))
    clear x0 x1 hhs
    go_wp2_with fail
    refine (wickerref02_Has.calls A0 c0 l0 A1 c1 l1 a2 Ao co m3 rt.f1 false _ HI3.out.r0 h0 HI3.out.r1 h1 HI3.out.v.r3 h3 HH.out).mono ?_
    rintro e w5 ⟨rfl, hb5⟩
    have HI5 := Lib.hid (HI3.out.step hb5)
    clear hb5 HI3 y0 y1 y2 z0 z1 z2 z3
    go_wp2
    go_ret
    rw [HE4.out]
    exact ⟨rfl, HI5.out.v.bel⟩
  | true =>
    by_cases x3 : 0 < rt.f2.length
    · have x3b : decide ((rt.f2.length : Int) > 0) = true := decide_eq_true (by omega)
      have HE4 : Hid (rs = 9) := Lib.hid (HE3.out.trans (if_pos (Or.inr (Or.inr (Or.inr x3)))))
      clear x0 x1 hhs
      go_wp2_with fail
      refine (wickerref02_Has.calls A0 c0 l0 A1 c1 l1 a2 Ao co m3 rt.f1 true _ HI3.out.r0 h0 HI3.out.r1 h1 HI3.out.v.r3 h3 HH.out).mono ?_
      rintro e w5 ⟨rfl, hb5⟩
      have hI5 := HI3.out.step hb5
      have y2 := hI5.v.t2
      have HI5 := Lib.hid hI5
      clear hb5 HI3 z0 z1 z2 z3 hI5
      go_wp2
      go_ret
      rw [HE4.out]
      exact ⟨rfl, HI5.out.v.bel⟩
    · have x3b : decide ((rt.f2.length : Int) > 0) = false := decide_eq_false (by omega)
      have HE4 : Hid (rs = 0) := Lib.hid (HE3.out.trans (if_neg (by have := of_decide_eq_true hhs.symm; omega)))
      clear x0 x1 hhs
      go_wp2_with fail
      refine (wickerref02_Has.calls A0 c0 l0 A1 c1 l1 a2 Ao co m3 rt.f1 true _ HI3.out.r0 h0 HI3.out.r1 h1 HI3.out.v.r3 h3 HH.out).mono ?_
      rintro e w5 ⟨rfl, hb5⟩
      have hI5 := HI3.out.step hb5
      have y2 := hI5.v.t2
      have HI5 := Lib.hid hI5
      clear hb5 HI3 z0 z1 z2 z3 hI5
      go_wp2
      go_ret
      rw [HE4.out]
      exact ⟨rfl, HI5.out.v.bel⟩
set_option maxHeartbeats 4000000 in
set_option maxRecDepth 100000 in
theorem rtreeRoot_calls (A0 : Option Addr) (c0 : Nat) (l0 : List ByteArray) (A1 : Option Addr) (c1 : Nat) (l1 : List ByteArray) (a2 : Int) (Ao : Option Addr) (co : Nat) (l3 : List GRule) (hok : gramOk l0 l1 a2 l3 = true) (h0 : l0.length ≤ c0) (h1 : l1.length ≤ c1) (h3 : (l3.map ofR).length ≤ co) (t : TTree) (rt : RTree) (hrt : rt = toR t) (T : Option Addr) (tc : Nat) (htc : rt.f2.length ≤ tc) (hcnt : cntT t ≤ 1000000)
    (w : World) (hr0 : Kd.C Kd.string w A0 l0.length l0) (hr1 : Kd.C Kd.string w A1 l1.length l1) (hm : Kd.C k87 w Ao (l3.map ofR).length (l3.map ofR)) (ht : Kd.C k58 w T rt.f2.length rt.f2) :
    Calls Tryd.prog 34 #[.agg #[.slice A0 l0.length c0, .slice A1 l1.length c1, .int .i64 a2, .slice Ao (l3.map ofR).length co], .agg #[.int .i64 rt.f0, .int .i64 rt.f1, .slice T rt.f2.length tc]] w fun e w' => e = .returned (.int .i64 (rootC l0 l1 a2 l3 t)) ∧ Below w.heap.size w w' := by
  have hu := Tryd.underlying63
  have hu2 := Tryd.underlying58
  have hI : InQ w A0 c0 l0 A1 c1 l1 a2 Ao co (l3.map ofR) rt T tc _ := InQ.mk0 w hr0 hr1 hm ht
  have HCH := Lib.hid (fun (W : World) hr0 hr1 hr3 ht => rtreeCheck_calls A0 c0 l0 A1 c1 l1 a2 Ao co l3 hok h0 h1 h3 t rt hrt T tc htc hcnt W hr0 hr1 hr3 ht)
  have HRA := Lib.hid (rruleAt_of l3 t.f0)
  have HML : Hid ((l3.map ofR).length = l3.length) := Lib.hid (List.length_map _)
  obtain ⟨rs, hrs⟩ : ∃ rs, rs = rootC l0 l1 a2 l3 t := ⟨_, rfl⟩
  have HAT := Lib.hid (@treeC_at l0 l1 a2 l3 t)
  rw [← hrs]
  unfold rootC at hrs
  have HRU := Lib.hid hrs
  generalize treeC l0 l1 a2 l3 t = ch at *
  have e0 : t.f0 = rt.f0 := by rw [hrt, toR_f0]
  rw [e0] at HRU HRA
  have HE0 := Lib.hid e0
  generalize l3.map ofR = m3 at *
  have hz0 := hI.v.g0
  have hz1 := hI.v.g1
  have hz2 := hI.v.g2
  have hz3 := hI.v.g3
  have y0 := hI.v.t0
  have y1 := hI.v.t1
  have y2 := hI.v.t2
  have HI := Lib.hid hI
  clear hr0 hr1 hm ht hok hcnt hI hrs hrt e0
  go_enter Tryd.func34, Tryd.ntmps34
  go_wp2_with fail
  refine (HCH.out _ HI.out.r0 HI.out.r1 HI.out.v.r3 HI.out.v.tr).mono ?_
  rintro e w2 ⟨rfl, hb2⟩
  have hI2 := HI.out.step hb2
  clear hb2 HI hz0 hz1 hz2 hz3 y0 y1 y2
  by_cases hne : ch ≠ 0
  · have hneb : (ch != 0) = true := bne_iff_ne.2 hne
    have HE : Hid (rs = ch) := Lib.hid (by rw [HRU.out, if_pos hne])
    have HI2 := Lib.hid hI2
    clear hne hI2
    go_wp2
    go_ret
    rw [HE.out]
    exact ⟨rfl, HI2.out.v.bel⟩
  have hneb : (ch != 0) = false := by rw [Decidable.not_not.1 hne]; rfl
  have HE := Lib.hid (HRU.out.trans (if_neg hne))
  have y0 := hI2.v.t0
  have z2 := hI2.v.g2
  have z3 := hI2.v.g3
  by_cases hlf : rt.f0 < 0
  · have hlfb : decide (rt.f0 < 0) = true := decide_eq_true hlf
    have HE2 : Hid (rs = 10) := Lib.hid (HE.out.trans (if_pos (Or.inl hlf)))
    have HI2 := Lib.hid hI2
    clear hlf hne hI2
    go_wp2_with fail
    go_quiet (fail)
    go_wp2
    go_ret
    rw [HE2.out]
    exact ⟨rfl, pw_below_drewN HI2.out.v.bel _⟩
  have hlfb : decide (rt.f0 < 0) = false := decide_eq_false hlf
  have hft := fitT_in (HAT.out (Decidable.not_not.1 hne) (by have := HE0.out; omega))
  have hp0 : 0 ≤ rt.f0 := by have := HE0.out; omega
  have hp1 : rt.f0 < (m3.length : Int) := by have := HE0.out; have := HML.out; omega
  obtain ⟨ad, R2, rc2, eA, hx0, -, -, -⟩ := at_T87 hI2.v.r3 rt.f0 hp0 hp1
  subst eA
  obtain ⟨q2, hq2⟩ : ∃ q2, q2 = (ruleAt l3 rt.f0).f0 := ⟨_, rfl⟩
  rw [show (rd_T87 m3 rt.f0).f0 = q2 from by rw [hq2]; exact congrArg (fun r => r.f0) (HRA.out hp0 (by have := HML.out; omega))] at hx0
  have HE' : Hid (rs = if rt.f0 < 0 ∨ q2 ≠ a2 then 10 else 0) := Lib.hid (by rw [hq2]; exact HE.out)
  have HI2 := Lib.hid hI2
  clear hI2 hft hq2 HE hne
  by_cases hqa : q2 ≠ a2
  · have hqb : (q2 != a2) = true := bne_iff_ne.2 hqa
    have HE2 : Hid (rs = 10) := Lib.hid (HE'.out.trans (if_pos (Or.inr hqa)))
    clear hqa hlf
    go_wp2_with fail
    go_quiet (fail)
    go_wp2
    go_ret
    rw [HE2.out]
    exact ⟨rfl, pw_below_drewN HI2.out.v.bel _⟩
  · have hqb : (q2 != a2) = false := by rw [Decidable.not_not.1 hqa]; simp
    have HE2 : Hid (rs = 0) := Lib.hid (HE'.out.trans (if_neg (by omega)))
    clear hqa hlf
    go_wp2_with fail
    go_quiet (fail)
    go_wp2
    go_ret
    rw [HE2.out]
    exact ⟨rfl, pw_below_drewN HI2.out.v.bel _⟩
end Go.Proofs.YtmdjmbdeeodehaaDoor.G
end
