/- Chains of unit rules lead from their first nonterminal to their last, and are the shortest.: part 4 of 6 of its proof, packed by a program of this session out of the texts GRef024, RefC, GramF, GUnits1, UnitW, UnitA, UnitV, GUnitsWalk. -/
import Derived.Test.YtgdcnmpcfoomiaaDoorZUL2
import Derived.Deep.QuietTactic
import Derived.BigQuiet
import Derived.Deep.LoopGhost
import Derived.Deep.RegionLaw
section
namespace Go.Proofs.YtgdcnmpcfoomiaaDoor.G
open Go.RowKit Go.Proofs.YtgdcnmpcfoomiaaDoorW.PrintWords Go.Proofs.YtgdcnmpcfoomiaaDoorW.PrintLast Go.Proofs.YtgdcnmpcfoomiaaDoorW.PrintMore
attribute [local go_sem] max2_int min2_int max_two min_two max_three min_three max_four min_four
attribute [local go_sem] Go.Proofs.YtgdcnmpcfoomiaaDoorOwn.isSome_setCell
set_option linter.unusedVariables false
set_option linter.unusedSimpArgs false
mutual
def wickerref02_Check.j0 : Nat → Bool → List ByteArray → List ByteArray → Int → List (S38) → Option (Int)
 | 0, _, _, _, _, _ => none
 | k + 1, x30, x102000, x102001, x102002, x102003 => if x30 = true then (some 11) else (wickerref02_Check.l0 k 0 x102000 x102001 x102002 x102003)
def wickerref02_Check.l0 : Nat → Int → List ByteArray → List ByteArray → Int → List (S38) → Option (Int)
 | 0, _, _, _, _, _ => none
 | k + 1, x3, x102000, x102001, x102002, x102003 => if x3 < (x102000.length : Int) then (if 0 ≤ x3 then ((wickerref01_Name.f k (rdOf ByteArray.empty x102000 x3)).bind fun t103 => (if t103 = true then (wickerref02_Check.l0 k (wrap64 (x3 + 1)) x102000 x102001 x102002 x102003) else (some 1))) else (none)) else (wickerref02_Check.l1 k 0 x102000 x102001 x102002 x102003)
def wickerref02_Check.l1 : Nat → Int → List ByteArray → List ByteArray → Int → List (S38) → Option (Int)
 | 0, _, _, _, _, _ => none
 | k + 1, x4, x102000, x102001, x102002, x102003 => if x4 < (x102001.length : Int) then (if 0 ≤ x4 then ((wickerref01_Mark.f (rdOf ByteArray.empty x102001 x4)).bind fun t105 => (if t105 = true then (wickerref02_Check.l1 k (wrap64 (x4 + 1)) x102000 x102001 x102002 x102003) else (some 1))) else (none)) else ((wickerref02_twice.f k x102000).bind fun t106 => (if t106 = true then (wickerref02_Check.j3 k true x102000 x102001 x102002 x102003) else ((wickerref02_twice.f k x102001).bind fun t107 => (wickerref02_Check.j3 k t107 x102000 x102001 x102002 x102003))))
def wickerref02_Check.j3 : Nat → Bool → List ByteArray → List ByteArray → Int → List (S38) → Option (Int)
 | 0, _, _, _, _, _ => none
 | k + 1, x66, x102000, x102001, x102002, x102003 => if x66 = true then (some 2) else (if x102002 < 0 then (wickerref02_Check.j4 k true x102000 x102001 x102002 x102003) else (wickerref02_Check.j4 k (decide (x102002 ≥ (x102000.length : Int))) x102000 x102001 x102002 x102003))
def wickerref02_Check.j4 : Nat → Bool → List ByteArray → List ByteArray → Int → List (S38) → Option (Int)
 | 0, _, _, _, _, _ => none
 | k + 1, x77, x102000, x102001, x102002, x102003 => if x77 = true then (some 3) else (wickerref02_Check.l2 k 0 x102000 x102001 x102002 x102003)
def wickerref02_Check.l2 : Nat → Int → List ByteArray → List ByteArray → Int → List (S38) → Option (Int)
 | 0, _, _, _, _, _ => none
 | k + 1, x5, x102000, x102001, x102002, x102003 => if x5 < (x102003.length : Int) then (if 0 ≤ x5 then (if ((rd_T38 x102003 x5).f0) < 0 then (wickerref02_Check.j6 k x5 true x102000 x102001 x102002 x102003 ((rd_T38 x102003 x5).f0) ((rd_T38 x102003 x5).f1)) else (wickerref02_Check.j6 k x5 (decide (((rd_T38 x102003 x5).f0) ≥ (x102000.length : Int))) x102000 x102001 x102002 x102003 ((rd_T38 x102003 x5).f0) ((rd_T38 x102003 x5).f1))) else (none)) else (wickerref02_Check.l4 k 0 x102000 x102001 x102002 x102003)
def wickerref02_Check.j6 : Nat → Int → Bool → List ByteArray → List ByteArray → Int → List (S38) → Int → List Int → Option (Int)
 | 0, _, _, _, _, _, _, _, _ => none
 | k + 1, x5, x100, x102000, x102001, x102002, x102003, x110000, x110001 => if x100 = true then (some 3) else (wickerref02_Check.l3 k x5 0 x102000 x102001 x102002 x102003 x110000 x110001)
def wickerref02_Check.l3 : Nat → Int → Int → List ByteArray → List ByteArray → Int → List (S38) → Int → List Int → Option (Int)
 | 0, _, _, _, _, _, _, _, _ => none
 | k + 1, x5, x7, x102000, x102001, x102002, x102003, x110000, x110001 => if x7 < (x110001.length : Int) then (if 0 ≤ x7 then ((wickerref02_Has.f x102000 x102001 x102002 x102003 (rd x110001 x7)).bind fun t111 => (if t111 = true then (wickerref02_Check.l3 k x5 (wrap64 (x7 + 1)) x102000 x102001 x102002 x102003 x110000 x110001) else (some 3))) else (none)) else (if (x110001.length : Int) > 64 then (some 5) else (wickerref02_Check.l2 k (wrap64 (x5 + 1)) x102000 x102001 x102002 x102003))
def wickerref02_Check.l4 : Nat → Int → List ByteArray → List ByteArray → Int → List (S38) → Option (Int)
 | 0, _, _, _, _, _ => none
 | k + 1, x8, x102000, x102001, x102002, x102003 => if x8 < (x102003.length : Int) then (if 0 ≤ x8 then ((wickerref02_Find.f k x102003 ((rd_T38 x102003 x8).f0) ((rd_T38 x102003 x8).f1)).bind fun t113 => (if t113 < x8 then (some 2) else (wickerref02_Check.l4 k (wrap64 (x8 + 1)) x102000 x102001 x102002 x102003))) else (none)) else (some 0)
end
def wickerref02_Check.f (k : Nat) (l0_0 : List ByteArray) (l0_1 : List ByteArray) (a0_2 : Int) (l0_3 : List (S38)) : Option (Int) := if (l0_0.length : Int) < 1 then (wickerref02_Check.j0 k true l0_0 l0_1 a0_2 l0_3) else (if (l0_0.length : Int) > 2048 then (wickerref02_Check.j0 k true l0_0 l0_1 a0_2 l0_3) else (if (l0_1.length : Int) > 2048 then (wickerref02_Check.j0 k true l0_0 l0_1 a0_2 l0_3) else (wickerref02_Check.j0 k (decide ((l0_3.length : Int) > 8192)) l0_0 l0_1 a0_2 l0_3)))
def wickerref02_Check.T26 : Bool × List (List Nat × List Nat) := (true, [([], []), ([], []), ([1], [1]), ([], []), ([2, 3], [2, 3]), ([4], [4]), ([0, 5], [0, 5]), ([6], [6])])
def wickerref02_Check.B26 : List Nat := [0, 0, 2, 0, 14, 30, 63, 127]
theorem wickerref02_Check.tab26 : rtab .any (opsOf Tryd.f63 26) = wickerref02_Check.T26 := by kernel_rfl
theorem wickerref02_Check.bits26 : waitsOk wickerref02_Check.T26.2 wickerref02_Check.B26 = true := by kernel_rfl
def wickerref02_Check.T33 : Bool × List (List Nat × List Nat) := (true, [([], []), ([0], [0]), ([], []), ([2], [2]), ([], []), ([3, 4], [3, 4]), ([5], [5]), ([1, 6], [1, 6]), ([], []), ([7, 8], [7, 8])])
def wickerref02_Check.B33 : List Nat := [0, 1, 0, 4, 0, 28, 60, 127, 0, 511]
theorem wickerref02_Check.tab33 : rtab .any (opsOf Tryd.f63 33) = wickerref02_Check.T33 := by kernel_rfl
theorem wickerref02_Check.bits33 : waitsOk wickerref02_Check.T33.2 wickerref02_Check.B33 = true := by kernel_rfl
set_option maxHeartbeats 8000000 in
set_option maxRecDepth 100000 in
theorem wickerref02_Check.calls (k : Nat) (A0_0 : Option Addr) (c0_0 : Nat) (l0_0 : List ByteArray) (A0_1 : Option Addr) (c0_1 : Nat) (l0_1 : List ByteArray) (a0_2 : Int) (A0_3 : Option Addr) (c0_3 : Nat) (l0_3 : List (S38)) (r : Int) (w : World) (hr0_0 : Kd.C Kd.string w A0_0 l0_0.length l0_0) (hc0_0 : l0_0.length ≤ c0_0) (hr0_1 : Kd.C Kd.string w A0_1 l0_1.length l0_1) (hc0_1 : l0_1.length ≤ c0_1) (hr0_3 : Kd.C k38 w A0_3 l0_3.length l0_3) (hc0_3 : l0_3.length ≤ c0_3) (h : wickerref02_Check.f k l0_0 l0_1 a0_2 l0_3 = some r) :
  Calls Tryd.prog 63 #[.agg #[.slice A0_0 l0_0.length c0_0, .slice A0_1 l0_1.length c0_1, .int .i64 a0_2, .slice A0_3 l0_3.length c0_3]] w fun e w' => e = .returned (.int .i64 r) ∧ Below w.heap.size w w' := by
 have hu30 := Tryd.underlying30
 have hu38 := Tryd.underlying38
 have HR0_0 := Aside0.mk hr0_0
 have HC0_0 := Aside0.mk hc0_0
 clear hr0_0 hc0_0
 have HR0_1 := Aside0.mk hr0_1
 have HC0_1 := Aside0.mk hc0_1
 clear hr0_1 hc0_1
 have HR0_3 := Aside0.mk hr0_3
 have HC0_3 := Aside0.mk hc0_3
 clear hr0_3 hc0_3
 have HB := Aside0.mk (Below.refl w.heap.size w)
 have H : (if (l0_0.length : Int) < 1 then (wickerref02_Check.j0 k true l0_0 l0_1 a0_2 l0_3) else (if (l0_0.length : Int) > 2048 then (wickerref02_Check.j0 k true l0_0 l0_1 a0_2 l0_3) else (if (l0_1.length : Int) > 2048 then (wickerref02_Check.j0 k true l0_0 l0_1 a0_2 l0_3) else (wickerref02_Check.j0 k (decide ((l0_3.length : Int) > 8192)) l0_0 l0_1 a0_2 l0_3)))) = some r := h
 clear h
 have HC2 := Aside0.mk H
 clear H
 go_enter Tryd.func63, Tryd.ntmps63
 go_upto_region 1 with (first | ((with_reducible refine gate_dst (N := 1) rfl ?_); (try (refine gate_guard (by rfl) ?_; dsimp only)); refine box_event ?hg (N := 1) ?hd (cs := #[.slice A0_0 l0_0.length c0_0, .slice A0_1 l0_1.length c0_1, .int .i64 a0_2, .slice A0_3 l0_3.length c0_3]) (t := 30) ?hr ?_; (case hd => rfl); (case hg => rfl); (case hr => first | (go_simp; done) | (go_simp; rfl)); intro gb101 hg w3 hbox hb; have n0_ := Aside0.mk (below_step (by repeat (first | (with_reducible first | exact HB.out | apply below_alloc | apply pw_below_drewN | apply below_drew1) | exact HB.out)) hb); have n1_ := Aside0.mk (hbox); have n2_ := Aside0.mk ((by rw [hg]; exact (below_size (by repeat (first | (with_reducible first | exact HB.out | apply below_alloc | apply pw_below_drewN | apply below_drew1) | exact HB.out))) : w.heap.size ≤ gb101)); have n3_ := Aside0.mk ((by rw [hg]; exact (below_size (by repeat (first | (with_reducible first | exact HB.out | apply below_alloc | apply pw_below_drewN | apply below_drew1) | exact HB.out))) : w.heap.size ≤ gb101)); clear HB; have HB := n0_; have BK101 := n1_; have GW101 := n2_; have GE101 := n3_; clear n0_ n1_ n2_ n3_; clear hb hbox hg))
 (try simp only [Act.put, List.setIfInBounds_toArray, List.set_cons_zero, List.set_cons_succ])
 go_cut [30] (fun v30 wc => ∃ (kq : Nat) (x30_1 : Bool), v30 = .bool x30_1 ∧ Aside0 (wickerref02_Check.j0 kq x30_1 l0_0 l0_1 a0_2 l0_3 = some r) ∧ Aside0 (kq ≤ k) ∧ Aside0 (wc.heap[gb101]? = some (.cells #[(.slice A0_0 l0_0.length c0_0), (.slice A0_1 l0_1.length c0_1), .int .i64 a0_2, (.slice A0_3 l0_3.length c0_3)] 30 (0, 0))) ∧ Aside0 (Below w.heap.size w wc))
 case first =>
  have H := HC2.out
  clear HC2
  by_cases c4 : (l0_0.length : Int) < 1
  ·rw [if_pos c4] at H
   have c4b0 : decide ((l0_0.length : Int) < 1) = true := decide_eq_true c4
   have c4b1 : decide (l0_0.length < 1) = true := decide_eq_true (by omega)
   clear c4
   (first | rw [c4b0] | (simp only [i64_w, i32_w]; rw [c4b0]) | skip)
   have H' := Aside0.mk H
   clear H
   have hcz5_0 : w3.cell? ⟨gb101, 0, none⟩ = some (.slice A0_0 l0_0.length c0_0) := (blk_cell BK101.out 0).trans rfl
   have hcz5_1 : w3.cell? ⟨gb101, 1, none⟩ = some (.slice A0_1 l0_1.length c0_1) := (blk_cell BK101.out 1).trans rfl
   have hcz5_2 : w3.cell? ⟨gb101, 2, none⟩ = some (.int .i64 a0_2) := (blk_cell BK101.out 2).trans rfl
   have hcz5_3 : w3.cell? ⟨gb101, 3, none⟩ = some (.slice A0_3 l0_3.length c0_3) := (blk_cell BK101.out 3).trans rfl
   have hfz5_0 := blk_frozen BK101.out 0
   have hfz5_1 := blk_frozen BK101.out 1
   have hfz5_2 := blk_frozen BK101.out 2
   have hfz5_3 := blk_frozen BK101.out 3
   go_wp2
   go_meet
   case rel => exact ⟨_, (true), (by first | rfl | (simp; done) | (simp [*]; done)), H', ⟨by first | omega | exact Nat.le_refl _⟩, ⟨by (with_reducible repeat (first | refine blk_drewN ?_ _ | refine blk_drew ?_ | refine blk_alloc ?_ _)); exact BK101.out⟩, ⟨by repeat (first | (with_reducible first | exact HB.out | apply below_alloc | apply pw_below_drewN | apply below_drew1 | refine below_set ?_ GE101.out) | exact HB.out)⟩⟩
  ·rw [if_neg c4] at H
   have c4b0 : decide ((l0_0.length : Int) < 1) = false := decide_eq_false c4
   have c4b1 : decide (l0_0.length < 1) = false := decide_eq_false (by omega)
   clear c4
   (first | rw [c4b0] | (simp only [i64_w, i32_w]; rw [c4b0]) | skip)
   by_cases c6 : (l0_0.length : Int) > 2048
   ·rw [if_pos c6] at H
    have c6b0 : decide (2048 < (l0_0.length : Int)) = true := decide_eq_true c6
    have c6b1 : decide (2048 < l0_0.length) = true := decide_eq_true (by omega)
    clear c6
    have H' := Aside0.mk H
    clear H
    have hcz7_0 : w3.cell? ⟨gb101, 0, none⟩ = some (.slice A0_0 l0_0.length c0_0) := (blk_cell BK101.out 0).trans rfl
    have hcz7_1 : w3.cell? ⟨gb101, 1, none⟩ = some (.slice A0_1 l0_1.length c0_1) := (blk_cell BK101.out 1).trans rfl
    have hcz7_2 : w3.cell? ⟨gb101, 2, none⟩ = some (.int .i64 a0_2) := (blk_cell BK101.out 2).trans rfl
    have hcz7_3 : w3.cell? ⟨gb101, 3, none⟩ = some (.slice A0_3 l0_3.length c0_3) := (blk_cell BK101.out 3).trans rfl
    have hfz7_0 := blk_frozen BK101.out 0
    have hfz7_1 := blk_frozen BK101.out 1
    have hfz7_2 := blk_frozen BK101.out 2
    have hfz7_3 := blk_frozen BK101.out 3
    go_wp2
    go_meet
    case rel => exact ⟨_, (true), (by first | rfl | (simp; done) | (simp [*]; done)), H', ⟨by first | omega | exact Nat.le_refl _⟩, ⟨by (with_reducible repeat (first | refine blk_drewN ?_ _ | refine blk_drew ?_ | refine blk_alloc ?_ _)); exact BK101.out⟩, ⟨by repeat (first | (with_reducible first | exact HB.out | apply below_alloc | apply pw_below_drewN | apply below_drew1 | refine below_set ?_ GE101.out) | exact HB.out)⟩⟩
   ·rw [if_neg c6] at H
    have c6b0 : decide (2048 < (l0_0.length : Int)) = false := decide_eq_false c6
    have c6b1 : decide (2048 < l0_0.length) = false := decide_eq_false (by omega)
    clear c6
    by_cases c8 : (l0_1.length : Int) > 2048
    ·rw [if_pos c8] at H
     have c8b0 : decide (2048 < (l0_1.length : Int)) = true := decide_eq_true c8
     have c8b1 : decide (2048 < l0_1.length) = true := decide_eq_true (by omega)
     clear c8
     have H' := Aside0.mk H
     clear H
     have hcz9_0 : w3.cell? ⟨gb101, 0, none⟩ = some (.slice A0_0 l0_0.length c0_0) := (blk_cell BK101.out 0).trans rfl
     have hcz9_1 : w3.cell? ⟨gb101, 1, none⟩ = some (.slice A0_1 l0_1.length c0_1) := (blk_cell BK101.out 1).trans rfl
     have hcz9_2 : w3.cell? ⟨gb101, 2, none⟩ = some (.int .i64 a0_2) := (blk_cell BK101.out 2).trans rfl
     have hcz9_3 : w3.cell? ⟨gb101, 3, none⟩ = some (.slice A0_3 l0_3.length c0_3) := (blk_cell BK101.out 3).trans rfl
     have hfz9_0 := blk_frozen BK101.out 0
     have hfz9_1 := blk_frozen BK101.out 1
     have hfz9_2 := blk_frozen BK101.out 2
     have hfz9_3 := blk_frozen BK101.out 3
     go_wp2
     go_meet
     case rel => exact ⟨_, (true), (by first | rfl | (simp; done) | (simp [*]; done)), H', ⟨by first | omega | exact Nat.le_refl _⟩, ⟨by (with_reducible repeat (first | refine blk_drewN ?_ _ | refine blk_drew ?_ | refine blk_alloc ?_ _)); exact BK101.out⟩, ⟨by repeat (first | (with_reducible first | exact HB.out | apply below_alloc | apply pw_below_drewN | apply below_drew1 | refine below_set ?_ GE101.out) | exact HB.out)⟩⟩
    ·rw [if_neg c8] at H
     have c8b0 : decide (2048 < (l0_1.length : Int)) = false := decide_eq_false c8
     have c8b1 : decide (2048 < l0_1.length) = false := decide_eq_false (by omega)
     clear c8
     have H' := Aside0.mk H
     clear H
     have hcz10_0 : w3.cell? ⟨gb101, 0, none⟩ = some (.slice A0_0 l0_0.length c0_0) := (blk_cell BK101.out 0).trans rfl
     have hcz10_1 : w3.cell? ⟨gb101, 1, none⟩ = some (.slice A0_1 l0_1.length c0_1) := (blk_cell BK101.out 1).trans rfl
     have hcz10_2 : w3.cell? ⟨gb101, 2, none⟩ = some (.int .i64 a0_2) := (blk_cell BK101.out 2).trans rfl
     have hcz10_3 : w3.cell? ⟨gb101, 3, none⟩ = some (.slice A0_3 l0_3.length c0_3) := (blk_cell BK101.out 3).trans rfl
     have hfz10_0 := blk_frozen BK101.out 0
     have hfz10_1 := blk_frozen BK101.out 1
     have hfz10_2 := blk_frozen BK101.out 2
     have hfz10_3 := blk_frozen BK101.out 3
     go_wp2
     go_meet
     case rel => exact ⟨_, (decide ((l0_3.length : Int) > 8192)), (by first | rfl | (simp; done) | (simp [*]; done)), H', ⟨by first | omega | exact Nat.le_refl _⟩, ⟨by (with_reducible repeat (first | refine blk_drewN ?_ _ | refine blk_drew ?_ | refine blk_alloc ?_ _)); exact BK101.out⟩, ⟨by repeat (first | (with_reducible first | exact HB.out | apply below_alloc | apply pw_below_drewN | apply below_drew1 | refine below_set ?_ GE101.out) | exact HB.out)⟩⟩
 case rest =>
  clear HC2
  try clear p2
  try clear c4
  try clear c4b0
  try clear c4b1
  try clear c6
  try clear c6b0
  try clear c6b1
  try clear c8
  try clear c8b0
  try clear c8b1
  try clear hcz10_0
  try clear hcz10_1
  try clear hcz10_2
  try clear hcz10_3
  try clear hcz5_0
  try clear hcz5_1
  try clear hcz5_2
  try clear hcz5_3
  try clear hcz7_0
  try clear hcz7_1
  try clear hcz7_2
  try clear hcz7_3
  try clear hcz9_0
  try clear hcz9_1
  try clear hcz9_2
  try clear hcz9_3
  try clear hfz10_0
  try clear hfz10_1
  try clear hfz10_2
  try clear hfz10_3
  try clear hfz5_0
  try clear hfz5_1
  try clear hfz5_2
  try clear hfz5_3
  try clear hfz7_0
  try clear hfz7_1
  try clear hfz7_2
  try clear hfz7_3
  try clear hfz9_0
  try clear hfz9_1
  try clear hfz9_2
  try clear hfz9_3
  obtain ⟨kq, x30_1, rfl, HA, HJ1, BK101, HB⟩ := hcut
  cases kq with
  | zero => exact absurd HA.out (by simp [wickerref02_Check.j0])
  | succ kj1 =>
   have H := HA.out
   clear HA
   simp only [wickerref02_Check.j0] at H
   by_cases c11 : x30_1 = true
   ·subst c11
    have H1 : (some 11) = some r := by rw [if_pos rfl] at H; exact H
    clear H
    have H := H1
    clear H1
    obtain rfl := Option.some.inj H
    go_wp2
    go_ret
    exact ⟨by first | rfl | (simp [errW_none, errW_some] <;> rfl) | (simp [*, errW_none, errW_some] <;> rfl), by repeat (first | (with_reducible first | exact HB.out | apply below_alloc | apply pw_below_drewN | apply below_drew1 | refine below_set ?_ GE101.out) | exact HB.out)⟩
   ·replace c11 := Bool.eq_false_iff.mpr c11
    subst c11
    have H1 : (wickerref02_Check.l0 kj1 0 l0_0 l0_1 a0_2 l0_3) = some r := by rw [if_neg (show ¬ (false = true) by decide)] at H; exact H
    clear H
    have H := H1
    clear H1
    have H' := Aside0.mk H
    clear H
    go_wp2
    go_loopg [3] kj1 (fun kq v3 w' => ∃ (x3_2 : Int), v3 = .int .i64 x3_2 ∧ Aside0 (wickerref02_Check.l0 kq x3_2 l0_0 l0_1 a0_2 l0_3 = some r) ∧ Aside0 (kq ≤ kj1) ∧ Aside0 (w'.heap[gb101]? = some (.cells #[(.slice A0_0 l0_0.length c0_0), (.slice A0_1 l0_1.length c0_1), .int .i64 a0_2, (.slice A0_3 l0_3.length c0_3)] 30 (0, 0))) ∧ Aside0 (Below w.heap.size w w'))
    case atStart => exact ⟨(0), (by first | rfl | (simp; done) | (simp [*]; done)), H', ⟨Nat.le_refl _⟩, ⟨by (with_reducible repeat (first | refine blk_drewN ?_ _ | refine blk_drew ?_ | refine blk_alloc ?_ _)); exact BK101.out⟩, ⟨by repeat (first | (with_reducible first | exact HB.out | apply below_alloc | apply pw_below_drewN | apply below_drew1 | refine below_set ?_ GE101.out) | exact HB.out)⟩⟩
    case round =>
     clear H'
     try clear c1
     try clear p2
     try clear c4
     try clear c4b0
     try clear c4b1
     try clear c6
     try clear c6b0
     try clear c6b1
     try clear c8
     try clear c8b0
     try clear c8b1
     try clear c11
     try clear hcz10_0
     try clear hcz10_1
     try clear hcz10_2
     try clear hcz10_3
     try clear hcz5_0
     try clear hcz5_1
     try clear hcz5_2
     try clear hcz5_3
     try clear hcz7_0
     try clear hcz7_1
     try clear hcz7_2
     try clear hcz7_3
     try clear hcz9_0
     try clear hcz9_1
     try clear hcz9_2
     try clear hcz9_3
     try clear hfz10_0
     try clear hfz10_1
     try clear hfz10_2
     try clear hfz10_3
     try clear hfz5_0
     try clear hfz5_1
     try clear hfz5_2
     try clear hfz5_3
     try clear hfz7_0
     try clear hfz7_1
     try clear hfz7_2
     try clear hfz7_3
     try clear hfz9_0
     try clear hfz9_1
     try clear hfz9_2
     try clear hfz9_3
     try clear p2
     obtain ⟨x3_2, rfl, HA, HK2, BK101, HB⟩ := hrel
     cases gk with
     | zero => exact absurd HA.out (by simp [wickerref02_Check.l0])
     | succ k2 =>
      have H := HA.out
      clear HA
      simp only [wickerref02_Check.l0] at H
      by_cases c12 : x3_2 < (l0_0.length : Int)
      ·rw [if_pos c12] at H
       have c12b0 : decide (x3_2 < (l0_0.length : Int)) = true := decide_eq_true c12
       clear c12
       by_cases c13 : 0 ≤ x3_2
       ·rw [if_pos c13] at H
        have c13b0 : decide (0 ≤ x3_2) = true := decide_eq_true c13
        clear c13
        replace H := Option.bind_eq_some_iff.mp H
        obtain ⟨t103, A140, H⟩ := H
        replace H : (if t103 = true then (wickerref02_Check.l0 k2 (wrap64 (x3_2 + 1)) l0_0 l0_1 a0_2 l0_3) else (some 1)) = some r := H
        have A14 := Aside0.mk A140
        clear A140
        by_cases c15 : t103 = true
        ·subst c15
         have H1 : (wickerref02_Check.l0 k2 (wrap64 (x3_2 + 1)) l0_0 l0_1 a0_2 l0_3) = some r := by rw [if_pos rfl] at H; exact H
         clear H
         have H := H1
         clear H1
         have H' := Aside0.mk H
         clear H
         have hcz16_0 : wr.cell? ⟨gb101, 0, none⟩ = some (.slice A0_0 l0_0.length c0_0) := (blk_cell BK101.out 0).trans rfl
         have hcz16_1 : wr.cell? ⟨gb101, 1, none⟩ = some (.slice A0_1 l0_1.length c0_1) := (blk_cell BK101.out 1).trans rfl
         have hcz16_2 : wr.cell? ⟨gb101, 2, none⟩ = some (.int .i64 a0_2) := (blk_cell BK101.out 2).trans rfl
         have hcz16_3 : wr.cell? ⟨gb101, 3, none⟩ = some (.slice A0_3 l0_3.length c0_3) := (blk_cell BK101.out 3).trans rfl
         have hfz16_0 := blk_frozen BK101.out 0
         have hfz16_1 := blk_frozen BK101.out 1
         have hfz16_2 := blk_frozen BK101.out 2
         have hfz16_3 := blk_frozen BK101.out 3
         have p102 : 0 ≤ (x3_2 : Int) := of_decide_eq_true (by first | (with_reducible assumption) | assumption)
         have q102 : x3_2 < (l0_0.length : Int) := of_decide_eq_true (by first | (with_reducible assumption) | assumption)
         obtain ⟨ad102, e102, hx102_0⟩ := Kd.at_string HR0_0.out x3_2 p102 q102
         cases e102
         replace hx102_0 := (HB.out.cell (World.block_lt_of_cell? w _ hx102_0)).trans hx102_0
         replace p102 := eq_true p102
         replace q102 := eq_true q102
         go_wp2_with (first | ((with_reducible refine gate_callee (f := 80) rfl ?_); refine goesL_ (some 43) rfl rfl Tryd.func80 (by kernel_rfl) rfl #[.string (rdOf ByteArray.empty l0_0 x3_2)] rfl (by (try simp only [List.map_toArray, List.map_cons, List.map_nil]); first | done | rfl | (simp only [List.length_drop, List.length_take]; rfl)) ?_; (with_reducible refine (wickerref01_Name.calls k2 (rdOf ByteArray.empty l0_0 x3_2) true _ A14.out).mono ?_); rintro e w' ⟨rfl, ⟨nd, rfl⟩⟩; refine ⟨_, rfl, ?_⟩))
         go_roundg k2
         case measure => have := HJ1.out; have := HK2.out; omega
         case rel => exact ⟨(wrap64 (x3_2 + 1)), (by first | rfl | (simp; done) | (simp [*]; done)), H', ⟨by have := HJ1.out; have := HK2.out; omega⟩, ⟨by (with_reducible repeat (first | refine blk_drewN ?_ _ | refine blk_drew ?_ | refine blk_alloc ?_ _)); exact BK101.out⟩, ⟨by repeat (first | (with_reducible first | exact HB.out | apply below_alloc | apply pw_below_drewN | apply below_drew1 | refine below_set ?_ GE101.out) | exact HB.out)⟩⟩
        ·replace c15 := Bool.eq_false_iff.mpr c15
         subst c15
         have H1 : (some 1) = some r := by rw [if_neg (show ¬ (false = true) by decide)] at H; exact H
         clear H
         have H := H1
         clear H1
         obtain rfl := Option.some.inj H
         have hcz17_0 : wr.cell? ⟨gb101, 0, none⟩ = some (.slice A0_0 l0_0.length c0_0) := (blk_cell BK101.out 0).trans rfl
         have hcz17_1 : wr.cell? ⟨gb101, 1, none⟩ = some (.slice A0_1 l0_1.length c0_1) := (blk_cell BK101.out 1).trans rfl
         have hcz17_2 : wr.cell? ⟨gb101, 2, none⟩ = some (.int .i64 a0_2) := (blk_cell BK101.out 2).trans rfl
         have hcz17_3 : wr.cell? ⟨gb101, 3, none⟩ = some (.slice A0_3 l0_3.length c0_3) := (blk_cell BK101.out 3).trans rfl
         have hfz17_0 := blk_frozen BK101.out 0
         have hfz17_1 := blk_frozen BK101.out 1
         have hfz17_2 := blk_frozen BK101.out 2
         have hfz17_3 := blk_frozen BK101.out 3
         have p102 : 0 ≤ (x3_2 : Int) := of_decide_eq_true (by first | (with_reducible assumption) | assumption)
         have q102 : x3_2 < (l0_0.length : Int) := of_decide_eq_true (by first | (with_reducible assumption) | assumption)
         obtain ⟨ad102, e102, hx102_0⟩ := Kd.at_string HR0_0.out x3_2 p102 q102
         cases e102
         replace hx102_0 := (HB.out.cell (World.block_lt_of_cell? w _ hx102_0)).trans hx102_0
         replace p102 := eq_true p102
         replace q102 := eq_true q102
         go_wp2_with (first | ((with_reducible refine gate_callee (f := 80) rfl ?_); refine goesL_ (some 43) rfl rfl Tryd.func80 (by kernel_rfl) rfl #[.string (rdOf ByteArray.empty l0_0 x3_2)] rfl (by (try simp only [List.map_toArray, List.map_cons, List.map_nil]); first | done | rfl | (simp only [List.length_drop, List.length_take]; rfl)) ?_; (with_reducible refine (wickerref01_Name.calls k2 (rdOf ByteArray.empty l0_0 x3_2) false _ A14.out).mono ?_); rintro e w' ⟨rfl, ⟨nd, rfl⟩⟩; refine ⟨_, rfl, ?_⟩))
         go_ret
         exact ⟨by first | rfl | (simp [errW_none, errW_some] <;> rfl) | (simp [*, errW_none, errW_some] <;> rfl), by repeat (first | (with_reducible first | exact HB.out | apply below_alloc | apply pw_below_drewN | apply below_drew1 | refine below_set ?_ GE101.out) | exact HB.out)⟩
       ·rw [if_neg c13] at H
        exact absurd H (by simp)
      ·rw [if_neg c12] at H
       have c12b0 : decide (x3_2 < (l0_0.length : Int)) = false := decide_eq_false c12
       clear c12
       have H' := Aside0.mk H
       clear H
       have hcz18_0 : wr.cell? ⟨gb101, 0, none⟩ = some (.slice A0_0 l0_0.length c0_0) := (blk_cell BK101.out 0).trans rfl
       have hcz18_1 : wr.cell? ⟨gb101, 1, none⟩ = some (.slice A0_1 l0_1.length c0_1) := (blk_cell BK101.out 1).trans rfl
       have hcz18_2 : wr.cell? ⟨gb101, 2, none⟩ = some (.int .i64 a0_2) := (blk_cell BK101.out 2).trans rfl
       have hcz18_3 : wr.cell? ⟨gb101, 3, none⟩ = some (.slice A0_3 l0_3.length c0_3) := (blk_cell BK101.out 3).trans rfl
       have hfz18_0 := blk_frozen BK101.out 0
       have hfz18_1 := blk_frozen BK101.out 1
       have hfz18_2 := blk_frozen BK101.out 2
       have hfz18_3 := blk_frozen BK101.out 3
       go_wp2
       go_loopg [4] k2 (fun kq v4 w' => ∃ (x4_3 : Int), v4 = .int .i64 x4_3 ∧ Aside0 (wickerref02_Check.l1 kq x4_3 l0_0 l0_1 a0_2 l0_3 = some r) ∧ Aside0 (kq ≤ k2) ∧ Aside0 (w'.heap[gb101]? = some (.cells #[(.slice A0_0 l0_0.length c0_0), (.slice A0_1 l0_1.length c0_1), .int .i64 a0_2, (.slice A0_3 l0_3.length c0_3)] 30 (0, 0))) ∧ Aside0 (Below w.heap.size w w'))
       case atStart => exact ⟨(0), (by first | rfl | (simp; done) | (simp [*]; done)), H', ⟨Nat.le_refl _⟩, ⟨by (with_reducible repeat (first | refine blk_drewN ?_ _ | refine blk_drew ?_ | refine blk_alloc ?_ _)); exact BK101.out⟩, ⟨by repeat (first | (with_reducible first | exact HB.out | apply below_alloc | apply pw_below_drewN | apply below_drew1 | refine below_set ?_ GE101.out) | exact HB.out)⟩⟩
       case round =>
        clear H'
        try clear c1
        try clear p1
        try clear q1
        try clear hx1
        try clear p2
        try clear c4
        try clear c4b0
        try clear c4b1
        try clear c6
        try clear c6b0
        try clear c6b1
        try clear p6
        try clear c8
        try clear c8b0
        try clear c8b1
        try clear p10
        try clear q10
        try clear hx10
        try clear c11
        try clear c12
        try clear c12b0
        try clear c13
        try clear c13b0
        try clear c15
        try clear hcz10_0
        try clear hcz10_1
        try clear hcz10_2
        try clear hcz10_3
        try clear hcz16_0
        try clear hcz16_1
        try clear hcz16_2
        try clear hcz16_3
        try clear hcz17_0
        try clear hcz17_1
        try clear hcz17_2
        try clear hcz17_3
        try clear hcz18_0
        try clear hcz18_1
        try clear hcz18_2
        try clear hcz18_3
        try clear hcz5_0
        try clear hcz5_1
        try clear hcz5_2
        try clear hcz5_3
        try clear hcz7_0
        try clear hcz7_1
        try clear hcz7_2
        try clear hcz7_3
        try clear hcz9_0
        try clear hcz9_1
        try clear hcz9_2
        try clear hcz9_3
        try clear hfz10_0
        try clear hfz10_1
        try clear hfz10_2
        try clear hfz10_3
        try clear hfz16_0
        try clear hfz16_1
        try clear hfz16_2
        try clear hfz16_3
        try clear hfz17_0
        try clear hfz17_1
        try clear hfz17_2
        try clear hfz17_3
        try clear hfz18_0
        try clear hfz18_1
        try clear hfz18_2
        try clear hfz18_3
        try clear hfz5_0
        try clear hfz5_1
        try clear hfz5_2
        try clear hfz5_3
        try clear hfz7_0
        try clear hfz7_1
        try clear hfz7_2
        try clear hfz7_3
        try clear hfz9_0
        try clear hfz9_1
        try clear hfz9_2
        try clear hfz9_3
        try clear hx102_0
        try clear p102
        try clear p2
        try clear q102
        obtain ⟨x4_3, rfl, HA, HK3, BK101, HB⟩ := hrel
        cases gk with
        | zero => exact absurd HA.out (by simp [wickerref02_Check.l1])
        | succ k3 =>
         have H := HA.out
         clear HA
         simp only [wickerref02_Check.l1] at H
         by_cases c19 : x4_3 < (l0_1.length : Int)
         ·rw [if_pos c19] at H
          have c19b0 : decide (x4_3 < (l0_1.length : Int)) = true := decide_eq_true c19
          clear c19
          by_cases c20 : 0 ≤ x4_3
          ·rw [if_pos c20] at H
           have c20b0 : decide (0 ≤ x4_3) = true := decide_eq_true c20
           clear c20
           replace H := Option.bind_eq_some_iff.mp H
           obtain ⟨t105, A210, H⟩ := H
           replace H : (if t105 = true then (wickerref02_Check.l1 k3 (wrap64 (x4_3 + 1)) l0_0 l0_1 a0_2 l0_3) else (some 1)) = some r := H
           have A21 := Aside0.mk A210
           clear A210
           by_cases c22 : t105 = true
           ·subst c22
            have H1 : (wickerref02_Check.l1 k3 (wrap64 (x4_3 + 1)) l0_0 l0_1 a0_2 l0_3) = some r := by rw [if_pos rfl] at H; exact H
            clear H
            have H := H1
            clear H1
            have H' := Aside0.mk H
            clear H
            have hcz23_0 : wr.cell? ⟨gb101, 0, none⟩ = some (.slice A0_0 l0_0.length c0_0) := (blk_cell BK101.out 0).trans rfl
            have hcz23_1 : wr.cell? ⟨gb101, 1, none⟩ = some (.slice A0_1 l0_1.length c0_1) := (blk_cell BK101.out 1).trans rfl
            have hcz23_2 : wr.cell? ⟨gb101, 2, none⟩ = some (.int .i64 a0_2) := (blk_cell BK101.out 2).trans rfl
            have hcz23_3 : wr.cell? ⟨gb101, 3, none⟩ = some (.slice A0_3 l0_3.length c0_3) := (blk_cell BK101.out 3).trans rfl
            have hfz23_0 := blk_frozen BK101.out 0
            have hfz23_1 := blk_frozen BK101.out 1
            have hfz23_2 := blk_frozen BK101.out 2
            have hfz23_3 := blk_frozen BK101.out 3
            have p104 : 0 ≤ (x4_3 : Int) := of_decide_eq_true (by first | (with_reducible assumption) | assumption)
            have q104 : x4_3 < (l0_1.length : Int) := of_decide_eq_true (by first | (with_reducible assumption) | assumption)
            obtain ⟨ad104, e104, hx104_0⟩ := Kd.at_string HR0_1.out x4_3 p104 q104
            cases e104
            replace hx104_0 := (HB.out.cell (World.block_lt_of_cell? w _ hx104_0)).trans hx104_0
            replace p104 := eq_true p104
            replace q104 := eq_true q104
            go_wp2_with (first | ((with_reducible refine gate_callee (f := 81) rfl ?_); refine goesL_ (some 57) rfl rfl Tryd.func81 (by kernel_rfl) rfl #[.string (rdOf ByteArray.empty l0_1 x4_3)] rfl (by (try simp only [List.map_toArray, List.map_cons, List.map_nil]); first | done | rfl | (simp only [List.length_drop, List.length_take]; rfl)) ?_; (with_reducible refine (wickerref01_Mark.calls (rdOf ByteArray.empty l0_1 x4_3) true _ A21.out).mono ?_); rintro e w' ⟨rfl, ⟨nd, rfl⟩⟩; refine ⟨_, rfl, ?_⟩))
            go_roundg k3
            case measure => have := HJ1.out; have := HK2.out; have := HK3.out; omega
            case rel => exact ⟨(wrap64 (x4_3 + 1)), (by first | rfl | (simp; done) | (simp [*]; done)), H', ⟨by have := HJ1.out; have := HK2.out; have := HK3.out; omega⟩, ⟨by (with_reducible repeat (first | refine blk_drewN ?_ _ | refine blk_drew ?_ | refine blk_alloc ?_ _)); exact BK101.out⟩, ⟨by repeat (first | (with_reducible first | exact HB.out | apply below_alloc | apply pw_below_drewN | apply below_drew1 | refine below_set ?_ GE101.out) | exact HB.out)⟩⟩
           ·replace c22 := Bool.eq_false_iff.mpr c22
            subst c22
            have H1 : (some 1) = some r := by rw [if_neg (show ¬ (false = true) by decide)] at H; exact H
            clear H
            have H := H1
            clear H1
            obtain rfl := Option.some.inj H
            have hcz24_0 : wr.cell? ⟨gb101, 0, none⟩ = some (.slice A0_0 l0_0.length c0_0) := (blk_cell BK101.out 0).trans rfl
            have hcz24_1 : wr.cell? ⟨gb101, 1, none⟩ = some (.slice A0_1 l0_1.length c0_1) := (blk_cell BK101.out 1).trans rfl
            have hcz24_2 : wr.cell? ⟨gb101, 2, none⟩ = some (.int .i64 a0_2) := (blk_cell BK101.out 2).trans rfl
            have hcz24_3 : wr.cell? ⟨gb101, 3, none⟩ = some (.slice A0_3 l0_3.length c0_3) := (blk_cell BK101.out 3).trans rfl
            have hfz24_0 := blk_frozen BK101.out 0
            have hfz24_1 := blk_frozen BK101.out 1
            have hfz24_2 := blk_frozen BK101.out 2
            have hfz24_3 := blk_frozen BK101.out 3
            have p104 : 0 ≤ (x4_3 : Int) := of_decide_eq_true (by first | (with_reducible assumption) | assumption)
            have q104 : x4_3 < (l0_1.length : Int) := of_decide_eq_true (by first | (with_reducible assumption) | assumption)
            obtain ⟨ad104, e104, hx104_0⟩ := Kd.at_string HR0_1.out x4_3 p104 q104
            cases e104
            replace hx104_0 := (HB.out.cell (World.block_lt_of_cell? w _ hx104_0)).trans hx104_0
            replace p104 := eq_true p104
            replace q104 := eq_true q104
            go_wp2_with (first | ((with_reducible refine gate_callee (f := 81) rfl ?_); refine goesL_ (some 57) rfl rfl Tryd.func81 (by kernel_rfl) rfl #[.string (rdOf ByteArray.empty l0_1 x4_3)] rfl (by (try simp only [List.map_toArray, List.map_cons, List.map_nil]); first | done | rfl | (simp only [List.length_drop, List.length_take]; rfl)) ?_; (with_reducible refine (wickerref01_Mark.calls (rdOf ByteArray.empty l0_1 x4_3) false _ A21.out).mono ?_); rintro e w' ⟨rfl, ⟨nd, rfl⟩⟩; refine ⟨_, rfl, ?_⟩))
            go_ret
            exact ⟨by first | rfl | (simp [errW_none, errW_some] <;> rfl) | (simp [*, errW_none, errW_some] <;> rfl), by repeat (first | (with_reducible first | exact HB.out | apply below_alloc | apply pw_below_drewN | apply below_drew1 | refine below_set ?_ GE101.out) | exact HB.out)⟩
          ·rw [if_neg c20] at H
           exact absurd H (by simp)
         ·rw [if_neg c19] at H
          have c19b0 : decide (x4_3 < (l0_1.length : Int)) = false := decide_eq_false c19
          clear c19
          have HC25 := Aside0.mk H
          clear H
          have hcz26_0 : wr.cell? ⟨gb101, 0, none⟩ = some (.slice A0_0 l0_0.length c0_0) := (blk_cell BK101.out 0).trans rfl
          have hcz26_1 : wr.cell? ⟨gb101, 1, none⟩ = some (.slice A0_1 l0_1.length c0_1) := (blk_cell BK101.out 1).trans rfl
          have hcz26_2 : wr.cell? ⟨gb101, 2, none⟩ = some (.int .i64 a0_2) := (blk_cell BK101.out 2).trans rfl
          have hcz26_3 : wr.cell? ⟨gb101, 3, none⟩ = some (.slice A0_3 l0_3.length c0_3) := (blk_cell BK101.out 3).trans rfl
          have hfz26_0 := blk_frozen BK101.out 0
          have hfz26_1 := blk_frozen BK101.out 1
          have hfz26_2 := blk_frozen BK101.out 2
          have hfz26_3 := blk_frozen BK101.out 3
          go_upto_region 13 with (fail)
          go_cut [66] (fun v66 wc => ∃ (kq : Nat) (x66_24 : Bool), v66 = .bool x66_24 ∧ Aside0 (wickerref02_Check.j3 kq x66_24 l0_0 l0_1 a0_2 l0_3 = some r) ∧ Aside0 (kq ≤ k3) ∧ Aside0 (wc.heap[gb101]? = some (.cells #[(.slice A0_0 l0_0.length c0_0), (.slice A0_1 l0_1.length c0_1), .int .i64 a0_2, (.slice A0_3 l0_3.length c0_3)] 30 (0, 0))) ∧ Aside0 (Below w.heap.size w wc))
          case first =>
           have H := HC25.out
           clear HC25
           replace H := Option.bind_eq_some_iff.mp H
           obtain ⟨t106, A270, H⟩ := H
           replace H : (if t106 = true then (wickerref02_Check.j3 k3 true l0_0 l0_1 a0_2 l0_3) else ((wickerref02_twice.f k3 l0_1).bind fun t107 => (wickerref02_Check.j3 k3 t107 l0_0 l0_1 a0_2 l0_3))) = some r := H
           have A27 := Aside0.mk A270
           clear A270
           by_cases c28 : t106 = true
           ·subst c28
            have H1 : (wickerref02_Check.j3 k3 true l0_0 l0_1 a0_2 l0_3) = some r := by rw [if_pos rfl] at H; exact H
            clear H
            have H := H1
            clear H1
            have H' := Aside0.mk H
            clear H
            have hcz29_0 : wr.cell? ⟨gb101, 0, none⟩ = some (.slice A0_0 l0_0.length c0_0) := (blk_cell BK101.out 0).trans rfl
            have hcz29_1 : wr.cell? ⟨gb101, 1, none⟩ = some (.slice A0_1 l0_1.length c0_1) := (blk_cell BK101.out 1).trans rfl
            have hcz29_2 : wr.cell? ⟨gb101, 2, none⟩ = some (.int .i64 a0_2) := (blk_cell BK101.out 2).trans rfl
            have hcz29_3 : wr.cell? ⟨gb101, 3, none⟩ = some (.slice A0_3 l0_3.length c0_3) := (blk_cell BK101.out 3).trans rfl
            have hfz29_0 := blk_frozen BK101.out 0
            have hfz29_1 := blk_frozen BK101.out 1
            have hfz29_2 := blk_frozen BK101.out 2
            have hfz29_3 := blk_frozen BK101.out 3
            go_wp2_with (first | ((with_reducible refine gate_callee (f := 82) rfl ?_); refine goesL_ (some 61) rfl rfl Tryd.func82 (by kernel_rfl) rfl #[.slice A0_0 l0_0.length c0_0] rfl (by (try simp only [List.map_toArray, List.map_cons, List.map_nil]); first | done | rfl | (simp only [List.length_drop, List.length_take]; rfl)) ?_; (with_reducible refine (wickerref02_twice.calls k3 _ _ l0_0 true _ ?side1 ?side2 A27.out).mono ?_); (case side1 => repeat (first | exact (Kd.C_below HR0_0.out HB.out) | (with_reducible refine Kd.C_alloc ?_ _) | (with_reducible refine Kd.C_drewN ?_ _) | (with_reducible refine Kd.C_drew ?_))); (case side2 => exact HC0_0.out); rintro e w' ⟨rfl, ⟨nd, rfl⟩⟩; refine ⟨_, rfl, ?_⟩))
            go_meet
            case rel => exact ⟨_, (true), (by first | rfl | (simp; done) | (simp [*]; done)), H', ⟨by have := HJ1.out; have := HK2.out; have := HK3.out; first | omega | exact Nat.le_refl _⟩, ⟨by (with_reducible repeat (first | refine blk_drewN ?_ _ | refine blk_drew ?_ | refine blk_alloc ?_ _)); exact BK101.out⟩, ⟨by repeat (first | (with_reducible first | exact HB.out | apply below_alloc | apply pw_below_drewN | apply below_drew1 | refine below_set ?_ GE101.out) | exact HB.out)⟩⟩
           ·replace c28 := Bool.eq_false_iff.mpr c28
            subst c28
            have H1 : ((wickerref02_twice.f k3 l0_1).bind fun t107 => (wickerref02_Check.j3 k3 t107 l0_0 l0_1 a0_2 l0_3)) = some r := by rw [if_neg (show ¬ (false = true) by decide)] at H; exact H
            clear H
            have H := H1
            clear H1
            replace H := Option.bind_eq_some_iff.mp H
            obtain ⟨t107, A300, H⟩ := H
            replace H : (wickerref02_Check.j3 k3 t107 l0_0 l0_1 a0_2 l0_3) = some r := H
            have A30 := Aside0.mk A300
            clear A300
            have H' := Aside0.mk H
            clear H
            have hcz31_0 : wr.cell? ⟨gb101, 0, none⟩ = some (.slice A0_0 l0_0.length c0_0) := (blk_cell BK101.out 0).trans rfl
            have hcz31_1 : wr.cell? ⟨gb101, 1, none⟩ = some (.slice A0_1 l0_1.length c0_1) := (blk_cell BK101.out 1).trans rfl
            have hcz31_2 : wr.cell? ⟨gb101, 2, none⟩ = some (.int .i64 a0_2) := (blk_cell BK101.out 2).trans rfl
            have hcz31_3 : wr.cell? ⟨gb101, 3, none⟩ = some (.slice A0_3 l0_3.length c0_3) := (blk_cell BK101.out 3).trans rfl
            have hfz31_0 := blk_frozen BK101.out 0
            have hfz31_1 := blk_frozen BK101.out 1
            have hfz31_2 := blk_frozen BK101.out 2
            have hfz31_3 := blk_frozen BK101.out 3
            go_wp2_with (first | ((with_reducible refine gate_callee (f := 82) rfl ?_); refine goesL_ (some 61) rfl rfl Tryd.func82 (by kernel_rfl) rfl #[.slice A0_0 l0_0.length c0_0] rfl (by (try simp only [List.map_toArray, List.map_cons, List.map_nil]); first | done | rfl | (simp only [List.length_drop, List.length_take]; rfl)) ?_; (with_reducible refine (wickerref02_twice.calls k3 _ _ l0_0 false _ ?side1 ?side2 A27.out).mono ?_); (case side1 => repeat (first | exact (Kd.C_below HR0_0.out HB.out) | (with_reducible refine Kd.C_alloc ?_ _) | (with_reducible refine Kd.C_drewN ?_ _) | (with_reducible refine Kd.C_drew ?_))); (case side2 => exact HC0_0.out); rintro e w' ⟨rfl, ⟨nd, rfl⟩⟩; refine ⟨_, rfl, ?_⟩) | (go_at_call 82; (with_reducible refine (wickerref02_twice.calls k3 _ _ l0_1 t107 _ ?side1 ?side2 A30.out).mono ?_); (case side1 => repeat (first | exact (Kd.C_below HR0_1.out (by repeat (first | (with_reducible first | exact HB.out | apply below_alloc | apply pw_below_drewN | apply below_drew1 | refine below_set ?_ GE101.out) | exact HB.out))) | (with_reducible refine Kd.C_alloc ?_ _) | (with_reducible refine Kd.C_drewN ?_ _) | (with_reducible refine Kd.C_drew ?_))); (case side2 => exact HC0_1.out); rintro e w' ⟨rfl, ⟨nd, rfl⟩⟩))
            go_meet
            case rel => exact ⟨_, (t107), (by first | rfl | (simp; done) | (simp [*]; done)), H', ⟨by have := HJ1.out; have := HK2.out; have := HK3.out; first | omega | exact Nat.le_refl _⟩, ⟨by (with_reducible repeat (first | refine blk_drewN ?_ _ | refine blk_drew ?_ | refine blk_alloc ?_ _)); exact BK101.out⟩, ⟨by repeat (first | (with_reducible first | exact HB.out | apply below_alloc | apply pw_below_drewN | apply below_drew1 | refine below_set ?_ GE101.out) | exact HB.out)⟩⟩
          case rest =>
           clear HC25
           try clear c1
           try clear p1
           try clear q1
           try clear hx1
           try clear c2
           try clear p2
           try clear c4
           try clear c4b0
           try clear c4b1
           try clear c6
           try clear c6b0
           try clear c6b1
           try clear p6
           try clear c8
           try clear c8b0
           try clear c8b1
           try clear p10
           try clear q10
           try clear hx10
           try clear c11
           try clear c12
           try clear c12b0
           try clear c13
           try clear c13b0
           try clear c15
           try clear c19
           try clear c19b0
           try clear c20
           try clear c20b0
           try clear c22
           try clear c28
           try clear hcz10_0
           try clear hcz10_1
           try clear hcz10_2
           try clear hcz10_3
           try clear hcz16_0
           try clear hcz16_1
           try clear hcz16_2
           try clear hcz16_3
           try clear hcz17_0
           try clear hcz17_1
           try clear hcz17_2
           try clear hcz17_3
           try clear hcz18_0
           try clear hcz18_1
           try clear hcz18_2
           try clear hcz18_3
           try clear hcz23_0
           try clear hcz23_1
           try clear hcz23_2
           try clear hcz23_3
           try clear hcz24_0
           try clear hcz24_1
           try clear hcz24_2
           try clear hcz24_3
           try clear hcz26_0
           try clear hcz26_1
           try clear hcz26_2
           try clear hcz26_3
           try clear hcz29_0
           try clear hcz29_1
           try clear hcz29_2
           try clear hcz29_3
           try clear hcz31_0
           try clear hcz31_1
           try clear hcz31_2
           try clear hcz31_3
           try clear hcz5_0
           try clear hcz5_1
           try clear hcz5_2
           try clear hcz5_3
           try clear hcz7_0
           try clear hcz7_1
           try clear hcz7_2
           try clear hcz7_3
           try clear hcz9_0
           try clear hcz9_1
           try clear hcz9_2
           try clear hcz9_3
           try clear hfz10_0
           try clear hfz10_1
           try clear hfz10_2
           try clear hfz10_3
           try clear hfz16_0
           try clear hfz16_1
           try clear hfz16_2
           try clear hfz16_3
           try clear hfz17_0
           try clear hfz17_1
           try clear hfz17_2
           try clear hfz17_3
           try clear hfz18_0
           try clear hfz18_1
           try clear hfz18_2
           try clear hfz18_3
           try clear hfz23_0
           try clear hfz23_1
           try clear hfz23_2
           try clear hfz23_3
           try clear hfz24_0
           try clear hfz24_1
           try clear hfz24_2
           try clear hfz24_3
           try clear hfz26_0
           try clear hfz26_1
           try clear hfz26_2
           try clear hfz26_3
           try clear hfz29_0
           try clear hfz29_1
           try clear hfz29_2
           try clear hfz29_3
           try clear hfz31_0
           try clear hfz31_1
           try clear hfz31_2
           try clear hfz31_3
           try clear hfz5_0
           try clear hfz5_1
           try clear hfz5_2
           try clear hfz5_3
           try clear hfz7_0
           try clear hfz7_1
           try clear hfz7_2
           try clear hfz7_3
           try clear hfz9_0
           try clear hfz9_1
           try clear hfz9_2
           try clear hfz9_3
           try clear hx102_0
           try clear hx104_0
           try clear p1
           try clear p10
           try clear p102
           try clear p104
           try clear p2
           try clear p6
           try clear q1
           try clear q10
           try clear q102
           try clear q104
           obtain ⟨kq, x66_24, rfl, HA, HJ24, BK101, HB⟩ := hcut
           cases kq with
           | zero => exact absurd HA.out (by simp [wickerref02_Check.j3])
           | succ kj24 =>
            have H := HA.out
            clear HA
            simp only [wickerref02_Check.j3] at H
            by_cases c32 : x66_24 = true
            ·subst c32
             have H1 : (some 2) = some r := by rw [if_pos rfl] at H; exact H
             clear H
             have H := H1
             clear H1
             obtain rfl := Option.some.inj H
             go_wp2
             go_ret
             exact ⟨by first | rfl | (simp [errW_none, errW_some] <;> rfl) | (simp [*, errW_none, errW_some] <;> rfl), by repeat (first | (with_reducible first | exact HB.out | apply below_alloc | apply pw_below_drewN | apply below_drew1 | refine below_set ?_ GE101.out) | exact HB.out)⟩
            ·replace c32 := Bool.eq_false_iff.mpr c32
             subst c32
             have H1 : (if a0_2 < 0 then (wickerref02_Check.j4 kj24 true l0_0 l0_1 a0_2 l0_3) else (wickerref02_Check.j4 kj24 (decide (a0_2 ≥ (l0_0.length : Int))) l0_0 l0_1 a0_2 l0_3)) = some r := by rw [if_neg (show ¬ (false = true) by decide)] at H; exact H
             clear H
             have H := H1
             clear H1
             have HC33 := Aside0.mk H
             clear H
             go_upto_region 15 with (fail)
             go_cut [77] (fun v77 wc => ∃ (kq : Nat) (x77_32 : Bool), v77 = .bool x77_32 ∧ Aside0 (wickerref02_Check.j4 kq x77_32 l0_0 l0_1 a0_2 l0_3 = some r) ∧ Aside0 (kq ≤ kj24) ∧ Aside0 (wc.heap[gb101]? = some (.cells #[(.slice A0_0 l0_0.length c0_0), (.slice A0_1 l0_1.length c0_1), .int .i64 a0_2, (.slice A0_3 l0_3.length c0_3)] 30 (0, 0))) ∧ Aside0 (Below w.heap.size w wc))
             case first =>
              have H := HC33.out
              clear HC33
              by_cases c34 : a0_2 < 0
              ·rw [if_pos c34] at H
               have c34b0 : decide (a0_2 < 0) = true := decide_eq_true c34
               clear c34
               (first | rw [c34b0] | (simp only [i64_w, i32_w]; rw [c34b0]) | skip)
               have H' := Aside0.mk H
               clear H
               have hcz35_0 : wc.cell? ⟨gb101, 0, none⟩ = some (.slice A0_0 l0_0.length c0_0) := (blk_cell BK101.out 0).trans rfl
               have hcz35_1 : wc.cell? ⟨gb101, 1, none⟩ = some (.slice A0_1 l0_1.length c0_1) := (blk_cell BK101.out 1).trans rfl
               have hcz35_2 : wc.cell? ⟨gb101, 2, none⟩ = some (.int .i64 a0_2) := (blk_cell BK101.out 2).trans rfl
               have hcz35_3 : wc.cell? ⟨gb101, 3, none⟩ = some (.slice A0_3 l0_3.length c0_3) := (blk_cell BK101.out 3).trans rfl
               have hfz35_0 := blk_frozen BK101.out 0
               have hfz35_1 := blk_frozen BK101.out 1
               have hfz35_2 := blk_frozen BK101.out 2
               have hfz35_3 := blk_frozen BK101.out 3
               go_wp2
               go_meet
               case rel => exact ⟨_, (true), (by first | rfl | (simp; done) | (simp [*]; done)), H', ⟨by have := HJ1.out; have := HK2.out; have := HK3.out; have := HJ24.out; first | omega | exact Nat.le_refl _⟩, ⟨by (with_reducible repeat (first | refine blk_drewN ?_ _ | refine blk_drew ?_ | refine blk_alloc ?_ _)); exact BK101.out⟩, ⟨by repeat (first | (with_reducible first | exact HB.out | apply below_alloc | apply pw_below_drewN | apply below_drew1 | refine below_set ?_ GE101.out) | exact HB.out)⟩⟩
              ·rw [if_neg c34] at H
               have c34b0 : decide (a0_2 < 0) = false := decide_eq_false c34
               clear c34
               (first | rw [c34b0] | (simp only [i64_w, i32_w]; rw [c34b0]) | skip)
               have H' := Aside0.mk H
               clear H
               have hcz36_0 : wc.cell? ⟨gb101, 0, none⟩ = some (.slice A0_0 l0_0.length c0_0) := (blk_cell BK101.out 0).trans rfl
               have hcz36_1 : wc.cell? ⟨gb101, 1, none⟩ = some (.slice A0_1 l0_1.length c0_1) := (blk_cell BK101.out 1).trans rfl
               have hcz36_2 : wc.cell? ⟨gb101, 2, none⟩ = some (.int .i64 a0_2) := (blk_cell BK101.out 2).trans rfl
               have hcz36_3 : wc.cell? ⟨gb101, 3, none⟩ = some (.slice A0_3 l0_3.length c0_3) := (blk_cell BK101.out 3).trans rfl
               have hfz36_0 := blk_frozen BK101.out 0
               have hfz36_1 := blk_frozen BK101.out 1
               have hfz36_2 := blk_frozen BK101.out 2
               have hfz36_3 := blk_frozen BK101.out 3
               go_wp2
               go_meet
               case rel => exact ⟨_, (decide (a0_2 ≥ (l0_0.length : Int))), (by first | rfl | (simp; done) | (simp [*]; done)), H', ⟨by have := HJ1.out; have := HK2.out; have := HK3.out; have := HJ24.out; first | omega | exact Nat.le_refl _⟩, ⟨by (with_reducible repeat (first | refine blk_drewN ?_ _ | refine blk_drew ?_ | refine blk_alloc ?_ _)); exact BK101.out⟩, ⟨by repeat (first | (with_reducible first | exact HB.out | apply below_alloc | apply pw_below_drewN | apply below_drew1 | refine below_set ?_ GE101.out) | exact HB.out)⟩⟩
             case rest =>
              clear HC33
              try clear c1
              try clear p1
              try clear q1
              try clear hx1
              try clear c2
              try clear p2
              try clear c3
              try clear c4
              try clear c4b0
              try clear c4b1
              try clear c6
              try clear c6b0
              try clear c6b1
              try clear p6
              try clear c8
              try clear c8b0
              try clear c8b1
              try clear p10
              try clear q10
              try clear hx10
              try clear c11
              try clear c12
              try clear c12b0
              try clear c13
              try clear c13b0
              try clear c15
              try clear c19
              try clear c19b0
              try clear c20
              try clear c20b0
              try clear c22
              try clear c28
              try clear c32
              try clear c34
              try clear c34b0
              try clear hcz10_0
              try clear hcz10_1
              try clear hcz10_2
              try clear hcz10_3
              try clear hcz16_0
              try clear hcz16_1
              try clear hcz16_2
              try clear hcz16_3
              try clear hcz17_0
              try clear hcz17_1
              try clear hcz17_2
              try clear hcz17_3
              try clear hcz18_0
              try clear hcz18_1
              try clear hcz18_2
              try clear hcz18_3
              try clear hcz23_0
              try clear hcz23_1
              try clear hcz23_2
              try clear hcz23_3
              try clear hcz24_0
              try clear hcz24_1
              try clear hcz24_2
              try clear hcz24_3
              try clear hcz26_0
              try clear hcz26_1
              try clear hcz26_2
              try clear hcz26_3
              try clear hcz29_0
              try clear hcz29_1
              try clear hcz29_2
              try clear hcz29_3
              try clear hcz31_0
              try clear hcz31_1
              try clear hcz31_2
              try clear hcz31_3
              try clear hcz35_0
              try clear hcz35_1
              try clear hcz35_2
              try clear hcz35_3
              try clear hcz36_0
              try clear hcz36_1
              try clear hcz36_2
              try clear hcz36_3
              try clear hcz5_0
              try clear hcz5_1
              try clear hcz5_2
              try clear hcz5_3
              try clear hcz7_0
              try clear hcz7_1
              try clear hcz7_2
              try clear hcz7_3
              try clear hcz9_0
              try clear hcz9_1
              try clear hcz9_2
              try clear hcz9_3
              try clear hfz10_0
              try clear hfz10_1
              try clear hfz10_2
              try clear hfz10_3
              try clear hfz16_0
              try clear hfz16_1
              try clear hfz16_2
              try clear hfz16_3
              try clear hfz17_0
              try clear hfz17_1
              try clear hfz17_2
              try clear hfz17_3
              try clear hfz18_0
              try clear hfz18_1
              try clear hfz18_2
              try clear hfz18_3
              try clear hfz23_0
              try clear hfz23_1
              try clear hfz23_2
              try clear hfz23_3
              try clear hfz24_0
              try clear hfz24_1
              try clear hfz24_2
              try clear hfz24_3
              try clear hfz26_0
              try clear hfz26_1
              try clear hfz26_2
              try clear hfz26_3
              try clear hfz29_0
              try clear hfz29_1
              try clear hfz29_2
              try clear hfz29_3
              try clear hfz31_0
              try clear hfz31_1
              try clear hfz31_2
              try clear hfz31_3
              try clear hfz35_0
              try clear hfz35_1
              try clear hfz35_2
              try clear hfz35_3
              try clear hfz36_0
              try clear hfz36_1
              try clear hfz36_2
              try clear hfz36_3
              try clear hfz5_0
              try clear hfz5_1
              try clear hfz5_2
              try clear hfz5_3
              try clear hfz7_0
              try clear hfz7_1
              try clear hfz7_2
              try clear hfz7_3
              try clear hfz9_0
              try clear hfz9_1
              try clear hfz9_2
              try clear hfz9_3
              try clear hx102_0
              try clear hx104_0
              try clear p1
              try clear p10
              try clear p102
              try clear p104
              try clear p2
              try clear p6
              try clear q1
              try clear q10
              try clear q102
              try clear q104
              obtain ⟨kq, x77_32, rfl, HA, HJ32, BK101, HB⟩ := hcut
              cases kq with
              | zero => exact absurd HA.out (by simp [wickerref02_Check.j4])
              | succ kj32 =>
               have H := HA.out
               clear HA
               simp only [wickerref02_Check.j4] at H
               by_cases c37 : x77_32 = true
               ·subst c37
                have H1 : (some 3) = some r := by rw [if_pos rfl] at H; exact H
                clear H
                have H := H1
                clear H1
                obtain rfl := Option.some.inj H
                go_wp2
                go_ret
                exact ⟨by first | rfl | (simp [errW_none, errW_some] <;> rfl) | (simp [*, errW_none, errW_some] <;> rfl), by repeat (first | (with_reducible first | exact HB.out | apply below_alloc | apply pw_below_drewN | apply below_drew1 | refine below_set ?_ GE101.out) | exact HB.out)⟩
               ·replace c37 := Bool.eq_false_iff.mpr c37
                subst c37
                have H1 : (wickerref02_Check.l2 kj32 0 l0_0 l0_1 a0_2 l0_3) = some r := by rw [if_neg (show ¬ (false = true) by decide)] at H; exact H
                clear H
                have H := H1
                clear H1
                have H' := Aside0.mk H
                clear H
                go_wp2
                go_loopg [5] kj32 (fun kq v5 w' => ∃ (x5_6 : Int), v5 = .int .i64 x5_6 ∧ Aside0 (wickerref02_Check.l2 kq x5_6 l0_0 l0_1 a0_2 l0_3 = some r) ∧ Aside0 (kq ≤ kj32) ∧ Aside0 (w'.heap[gb101]? = some (.cells #[(.slice A0_0 l0_0.length c0_0), (.slice A0_1 l0_1.length c0_1), .int .i64 a0_2, (.slice A0_3 l0_3.length c0_3)] 30 (0, 0))) ∧ Aside0 (Below w.heap.size w w'))
                case atStart => exact ⟨(0), (by first | rfl | (simp; done) | (simp [*]; done)), H', ⟨Nat.le_refl _⟩, ⟨by (with_reducible repeat (first | refine blk_drewN ?_ _ | refine blk_drew ?_ | refine blk_alloc ?_ _)); exact BK101.out⟩, ⟨by repeat (first | (with_reducible first | exact HB.out | apply below_alloc | apply pw_below_drewN | apply below_drew1 | refine below_set ?_ GE101.out) | exact HB.out)⟩⟩
                case round =>
                 clear H'
                 try clear c1
                 try clear p1
                 try clear q1
                 try clear hx1
                 try clear c2
                 try clear p2
                 try clear c3
                 try clear c4
                 try clear c4b0
                 try clear c4b1
                 try clear c6
                 try clear c6b0
                 try clear c6b1
                 try clear p6
                 try clear c8
                 try clear c8b0
                 try clear c8b1
                 try clear p10
                 try clear q10
                 try clear hx10
                 try clear c11
                 try clear c12
                 try clear c12b0
                 try clear c13
                 try clear c13b0
                 try clear c15
                 try clear c19
                 try clear c19b0
                 try clear c20
                 try clear c20b0
                 try clear c22
                 try clear c28
                 try clear c32
                 try clear c34
                 try clear c34b0
                 try clear c37
                 try clear hcz10_0
                 try clear hcz10_1
                 try clear hcz10_2
                 try clear hcz10_3
                 try clear hcz16_0
                 try clear hcz16_1
                 try clear hcz16_2
                 try clear hcz16_3
                 try clear hcz17_0
                 try clear hcz17_1
                 try clear hcz17_2
                 try clear hcz17_3
                 try clear hcz18_0
                 try clear hcz18_1
                 try clear hcz18_2
                 try clear hcz18_3
                 try clear hcz23_0
                 try clear hcz23_1
                 try clear hcz23_2
                 try clear hcz23_3
                 try clear hcz24_0
                 try clear hcz24_1
                 try clear hcz24_2
                 try clear hcz24_3
                 try clear hcz26_0
                 try clear hcz26_1
                 try clear hcz26_2
                 try clear hcz26_3
                 try clear hcz29_0
                 try clear hcz29_1
                 try clear hcz29_2
                 try clear hcz29_3
                 try clear hcz31_0
                 try clear hcz31_1
                 try clear hcz31_2
                 try clear hcz31_3
                 try clear hcz35_0
                 try clear hcz35_1
                 try clear hcz35_2
                 try clear hcz35_3
                 try clear hcz36_0
                 try clear hcz36_1
                 try clear hcz36_2
                 try clear hcz36_3
                 try clear hcz5_0
                 try clear hcz5_1
                 try clear hcz5_2
                 try clear hcz5_3
                 try clear hcz7_0
                 try clear hcz7_1
                 try clear hcz7_2
                 try clear hcz7_3
                 try clear hcz9_0
                 try clear hcz9_1
                 try clear hcz9_2
                 try clear hcz9_3
                 try clear hfz10_0
                 try clear hfz10_1
                 try clear hfz10_2
                 try clear hfz10_3
                 try clear hfz16_0
                 try clear hfz16_1
                 try clear hfz16_2
                 try clear hfz16_3
                 try clear hfz17_0
                 try clear hfz17_1
                 try clear hfz17_2
                 try clear hfz17_3
                 try clear hfz18_0
                 try clear hfz18_1
                 try clear hfz18_2
                 try clear hfz18_3
                 try clear hfz23_0
                 try clear hfz23_1
                 try clear hfz23_2
                 try clear hfz23_3
                 try clear hfz24_0
                 try clear hfz24_1
                 try clear hfz24_2
                 try clear hfz24_3
                 try clear hfz26_0
                 try clear hfz26_1
                 try clear hfz26_2
                 try clear hfz26_3
                 try clear hfz29_0
                 try clear hfz29_1
                 try clear hfz29_2
                 try clear hfz29_3
                 try clear hfz31_0
                 try clear hfz31_1
                 try clear hfz31_2
                 try clear hfz31_3
                 try clear hfz35_0
                 try clear hfz35_1
                 try clear hfz35_2
                 try clear hfz35_3
                 try clear hfz36_0
                 try clear hfz36_1
                 try clear hfz36_2
                 try clear hfz36_3
                 try clear hfz5_0
                 try clear hfz5_1
                 try clear hfz5_2
                 try clear hfz5_3
                 try clear hfz7_0
                 try clear hfz7_1
                 try clear hfz7_2
                 try clear hfz7_3
                 try clear hfz9_0
                 try clear hfz9_1
                 try clear hfz9_2
                 try clear hfz9_3
                 try clear hx102_0
                 try clear hx104_0
                 try clear p1
                 try clear p10
                 try clear p102
                 try clear p104
                 try clear p2
                 try clear p6
                 try clear q1
                 try clear q10
                 try clear q102
                 try clear q104
                 obtain ⟨x5_6, rfl, HA, HK6, BK101, HB⟩ := hrel
                 cases gk with
                 | zero => exact absurd HA.out (by simp [wickerref02_Check.l2])
                 | succ k6 =>
                  have H := HA.out
                  clear HA
                  simp only [wickerref02_Check.l2] at H
                  by_cases c38 : x5_6 < (l0_3.length : Int)
                  ·rw [if_pos c38] at H
                   have c38b0 : decide (x5_6 < (l0_3.length : Int)) = true := decide_eq_true c38
                   clear c38
                   by_cases c39 : 0 ≤ x5_6
                   ·rw [if_pos c39] at H
                    have c39b0 : decide (0 ≤ x5_6) = true := decide_eq_true c39
                    clear c39
                    have HC40 := Aside0.mk H
                    clear H
                    have hcz41_0 : wr.cell? ⟨gb101, 0, none⟩ = some (.slice A0_0 l0_0.length c0_0) := (blk_cell BK101.out 0).trans rfl
                    have hcz41_1 : wr.cell? ⟨gb101, 1, none⟩ = some (.slice A0_1 l0_1.length c0_1) := (blk_cell BK101.out 1).trans rfl
                    have hcz41_2 : wr.cell? ⟨gb101, 2, none⟩ = some (.int .i64 a0_2) := (blk_cell BK101.out 2).trans rfl
                    have hcz41_3 : wr.cell? ⟨gb101, 3, none⟩ = some (.slice A0_3 l0_3.length c0_3) := (blk_cell BK101.out 3).trans rfl
                    have hfz41_0 := blk_frozen BK101.out 0
                    have hfz41_1 := blk_frozen BK101.out 1
                    have hfz41_2 := blk_frozen BK101.out 2
                    have hfz41_3 := blk_frozen BK101.out 3
                    have p108 : 0 ≤ (x5_6 : Int) := of_decide_eq_true (by first | (with_reducible assumption) | assumption)
                    have q108 : x5_6 < (l0_3.length : Int) := of_decide_eq_true (by first | (with_reducible assumption) | assumption)
                    obtain ⟨ad108, A108_1, c108_1, e108, hx108_0, hx108_1, hl108_1, hi108_1⟩ := at_T38 HR0_3.out x5_6 p108 q108
                    cases e108
                    replace hx108_0 := (HB.out.cell (World.block_lt_of_cell? w _ hx108_0)).trans hx108_0
                    replace hx108_1 := (HB.out.cell (World.block_lt_of_cell? w _ hx108_1)).trans hx108_1
                    have HR108_1 := Aside0.mk hi108_1
                    have HC108_1 := Aside0.mk hl108_1
                    clear hi108_1 hl108_1
                    replace p108 := eq_true p108
                    replace q108 := eq_true q108
                    go_upto_region 21 with (first | ((with_reducible refine gate_dst (N := 6) rfl ?_); (try (refine gate_guard (by rfl) ?_; dsimp only)); refine box_event ?hg (N := 6) ?hd (cs := #[.int .i64 0, .slice none 0 0]) (t := 38) ?hr ?_; (case hd => rfl); (case hg => rfl); (case hr => first | (go_simp; done) | (go_simp; rfl)); intro gb109 hg w42 hbox hb; have n0_ := Aside0.mk (blk_below (g := gb101) (o := .cells #[.slice A0_0 l0_0.length c0_0, .slice A0_1 l0_1.length c0_1, .int .i64 a0_2, .slice (some ad108) l0_3.length c0_3] 30 (0, 0)) (by (with_reducible repeat (first | refine blk_drewN ?_ _ | refine blk_drew ?_ | refine blk_alloc ?_ _)); exact BK101.out) hb); have n1_ := Aside0.mk (below_step (by repeat (first | (with_reducible first | exact HB.out | apply below_alloc | apply pw_below_drewN | apply below_drew1 | refine below_set ?_ GE101.out) | exact HB.out)) hb); have n2_ := Aside0.mk (hbox); have n3_ := Aside0.mk ((by rw [hg]; exact (below_size (by repeat (first | (with_reducible first | exact HB.out | apply below_alloc | apply pw_below_drewN | apply below_drew1 | refine below_set ?_ GE101.out) | exact HB.out))) : w.heap.size ≤ gb109)); have n4_ := Aside0.mk ((by rw [hg]; exact (below_size (by repeat (first | (with_reducible first | exact HB.out | apply below_alloc | apply pw_below_drewN | apply below_drew1 | refine below_set ?_ GE101.out) | exact HB.out))) : w.heap.size ≤ gb109)); have n5_ := Aside0.mk ((by rw [hg]; exact Nat.ne_of_lt (blk_lt (g := gb101) (o := .cells #[.slice A0_0 l0_0.length c0_0, .slice A0_1 l0_1.length c0_1, .int .i64 a0_2, .slice (some ad108) l0_3.length c0_3] 30 (0, 0)) (by (with_reducible repeat (first | refine blk_drewN ?_ _ | refine blk_drew ?_ | refine blk_alloc ?_ _)); exact BK101.out)) : gb101 ≠ gb109)); have n6_ := Aside0.mk ((by rw [hg]; exact Nat.ne_of_gt (blk_lt (g := gb101) (o := .cells #[.slice A0_0 l0_0.length c0_0, .slice A0_1 l0_1.length c0_1, .int .i64 a0_2, .slice (some ad108) l0_3.length c0_3] 30 (0, 0)) (by (with_reducible repeat (first | refine blk_drewN ?_ _ | refine blk_drew ?_ | refine blk_alloc ?_ _)); exact BK101.out)) : gb109 ≠ gb101)); clear BK101; clear HB; have BK101 := n0_; have HB := n1_; have BK109 := n2_; have GW109 := n3_; have GE109 := n4_; have NB101_109 := n5_; have NB109_101 := n6_; clear n0_ n1_ n2_ n3_ n4_ n5_ n6_; clear hb hbox hg; have hnb43 := NB109_101.out; have hnc43 := NB101_109.out; have hcz44_0 : w42.cell? ⟨gb109, 0, none⟩ = some (.int .i64 0) := (blk_cell BK109.out 0).trans rfl; have hcz44_1 : w42.cell? ⟨gb109, 1, none⟩ = some (.slice none 0 0) := (blk_cell BK109.out 1).trans rfl; have hfz44_0 := blk_frozen BK109.out 0; have hfz44_1 := blk_frozen BK109.out 1))
                    (try simp only [Act.put, List.setIfInBounds_toArray, List.set_cons_zero, List.set_cons_succ])
                    go_cut [100] (fun v100 wc => ∃ (kq : Nat) (x100_39 : Bool), v100 = .bool x100_39 ∧ Aside0 (wickerref02_Check.j6 kq x5_6 x100_39 l0_0 l0_1 a0_2 l0_3 ((rd_T38 l0_3 x5_6).f0) ((rd_T38 l0_3 x5_6).f1) = some r) ∧ Aside0 (kq ≤ k6) ∧ Aside0 (wc.heap[gb101]? = some (.cells #[(.slice A0_0 l0_0.length c0_0), (.slice A0_1 l0_1.length c0_1), .int .i64 a0_2, (.slice (some ad108) l0_3.length c0_3)] 30 (0, 0))) ∧ Aside0 (wc.heap[gb109]? = some (.cells #[.int .i64 ((rd_T38 l0_3 x5_6).f0), (.slice A108_1 ((rd_T38 l0_3 x5_6).f1).length c108_1)] 38 (0, 0))) ∧ Aside0 (Below w.heap.size w wc))
                    case first =>
                     have H := HC40.out
                     clear HC40
                     by_cases c45 : ((rd_T38 l0_3 x5_6).f0) < 0
                     ·rw [if_pos c45] at H
                      have c45b0 : decide (((rd_T38 l0_3 x5_6).f0) < 0) = true := decide_eq_true c45
                      clear c45
                      (first | rw [c45b0] | (simp only [i64_w, i32_w]; rw [c45b0]) | skip)
                      have H' := Aside0.mk H
                      clear H
                      have hnb46 := NB109_101.out
                      have hnc46 := NB101_109.out
                      have hcz47_0 : w42.cell? ⟨gb109, 0, none⟩ = some (.int .i64 0) := (blk_cell BK109.out 0).trans rfl
                      have hcz47_1 : w42.cell? ⟨gb109, 1, none⟩ = some (.slice none 0 0) := (blk_cell BK109.out 1).trans rfl
                      have hfz47_0 := blk_frozen BK109.out 0
                      have hfz47_1 := blk_frozen BK109.out 1
                      go_wp2
                      go_meet
                      case rel => exact ⟨_, (true), (by first | rfl | (simp; done) | (simp [*]; done)), H', ⟨by have := HJ1.out; have := HK2.out; have := HK3.out; have := HJ24.out; have := HJ32.out; have := HK6.out; first | omega | exact Nat.le_refl _⟩, ⟨by (with_reducible repeat (first | refine blk_drewN ?_ _ | refine blk_drew ?_ | refine blk_alloc ?_ _)); refine blk_far ?_ NB101_109.out _; (with_reducible repeat (first | refine blk_drewN ?_ _ | refine blk_drew ?_ | refine blk_alloc ?_ _)); refine blk_far ?_ NB101_109.out _; (with_reducible repeat (first | refine blk_drewN ?_ _ | refine blk_drew ?_ | refine blk_alloc ?_ _)); exact BK101.out⟩, ⟨by (with_reducible repeat (first | refine blk_drewN ?_ _ | refine blk_drew ?_ | refine blk_alloc ?_ _)); refine blk_put (cs := #[.int .i64 ((rd_T38 l0_3 x5_6).f0), .slice none 0 0]) ?_ 1 _ rfl; (with_reducible repeat (first | refine blk_drewN ?_ _ | refine blk_drew ?_ | refine blk_alloc ?_ _)); refine blk_put (cs := #[.int .i64 0, .slice none 0 0]) ?_ 0 _ rfl; (with_reducible repeat (first | refine blk_drewN ?_ _ | refine blk_drew ?_ | refine blk_alloc ?_ _)); exact BK109.out⟩, ⟨by repeat (first | (with_reducible first | exact HB.out | apply below_alloc | apply pw_below_drewN | apply below_drew1 | refine below_set ?_ GE101.out | refine below_set ?_ GE109.out) | exact HB.out)⟩⟩
                     ·rw [if_neg c45] at H
                      have c45b0 : decide (((rd_T38 l0_3 x5_6).f0) < 0) = false := decide_eq_false c45
                      clear c45
                      (first | rw [c45b0] | (simp only [i64_w, i32_w]; rw [c45b0]) | skip)
                      have H' := Aside0.mk H
                      clear H
                      have hnb48 := NB109_101.out
                      have hnc48 := NB101_109.out
                      have hcz49_0 : w42.cell? ⟨gb109, 0, none⟩ = some (.int .i64 0) := (blk_cell BK109.out 0).trans rfl
                      have hcz49_1 : w42.cell? ⟨gb109, 1, none⟩ = some (.slice none 0 0) := (blk_cell BK109.out 1).trans rfl
                      have hfz49_0 := blk_frozen BK109.out 0
                      have hfz49_1 := blk_frozen BK109.out 1
                      have hcz50_0 : w42.cell? ⟨gb101, 0, none⟩ = some (.slice A0_0 l0_0.length c0_0) := (blk_cell BK101.out 0).trans rfl
                      have hcz50_1 : w42.cell? ⟨gb101, 1, none⟩ = some (.slice A0_1 l0_1.length c0_1) := (blk_cell BK101.out 1).trans rfl
                      have hcz50_2 : w42.cell? ⟨gb101, 2, none⟩ = some (.int .i64 a0_2) := (blk_cell BK101.out 2).trans rfl
                      have hcz50_3 : w42.cell? ⟨gb101, 3, none⟩ = some (.slice (some ad108) l0_3.length c0_3) := (blk_cell BK101.out 3).trans rfl
                      have hfz50_0 := blk_frozen BK101.out 0
                      have hfz50_1 := blk_frozen BK101.out 1
                      have hfz50_2 := blk_frozen BK101.out 2
                      have hfz50_3 := blk_frozen BK101.out 3
                      go_wp2
                      go_meet
                      case rel => exact ⟨_, (decide (((rd_T38 l0_3 x5_6).f0) ≥ (l0_0.length : Int))), (by first | rfl | (simp; done) | (simp [*]; done)), H', ⟨by have := HJ1.out; have := HK2.out; have := HK3.out; have := HJ24.out; have := HJ32.out; have := HK6.out; first | omega | exact Nat.le_refl _⟩, ⟨by (with_reducible repeat (first | refine blk_drewN ?_ _ | refine blk_drew ?_ | refine blk_alloc ?_ _)); refine blk_far ?_ NB101_109.out _; (with_reducible repeat (first | refine blk_drewN ?_ _ | refine blk_drew ?_ | refine blk_alloc ?_ _)); refine blk_far ?_ NB101_109.out _; (with_reducible repeat (first | refine blk_drewN ?_ _ | refine blk_drew ?_ | refine blk_alloc ?_ _)); exact BK101.out⟩, ⟨by (with_reducible repeat (first | refine blk_drewN ?_ _ | refine blk_drew ?_ | refine blk_alloc ?_ _)); refine blk_put (cs := #[.int .i64 ((rd_T38 l0_3 x5_6).f0), .slice none 0 0]) ?_ 1 _ rfl; (with_reducible repeat (first | refine blk_drewN ?_ _ | refine blk_drew ?_ | refine blk_alloc ?_ _)); refine blk_put (cs := #[.int .i64 0, .slice none 0 0]) ?_ 0 _ rfl; (with_reducible repeat (first | refine blk_drewN ?_ _ | refine blk_drew ?_ | refine blk_alloc ?_ _)); exact BK109.out⟩, ⟨by repeat (first | (with_reducible first | exact HB.out | apply below_alloc | apply pw_below_drewN | apply below_drew1 | refine below_set ?_ GE101.out | refine below_set ?_ GE109.out) | exact HB.out)⟩⟩
                    case rest =>
                     clear HC40
                     try clear c1
                     try clear p1
                     try clear q1
                     try clear hx1
                     try clear c2
                     try clear p2
                     try clear c3
                     try clear c4
                     try clear c4b0
                     try clear c4b1
                     try clear c6
                     try clear c6b0
                     try clear c6b1
                     try clear p6
                     try clear c8
                     try clear c8b0
                     try clear c8b1
                     try clear c10
                     try clear p10
                     try clear q10
                     try clear hx10
                     try clear c11
                     try clear c12
                     try clear c12b0
                     try clear c13
                     try clear c13b0
                     try clear c15
                     try clear c19
                     try clear c19b0
                     try clear c20
                     try clear c20b0
                     try clear c22
                     try clear c28
                     try clear c32
                     try clear c34
                     try clear c34b0
                     try clear c37
                     try clear c38
                     try clear c38b0
                     try clear c39
                     try clear c39b0
                     try clear c43
                     try clear c45
                     try clear c45b0
                     try clear c46
                     try clear c48
                     try clear hcz10_0
                     try clear hcz10_1
                     try clear hcz10_2
                     try clear hcz10_3
                     try clear hcz16_0
                     try clear hcz16_1
                     try clear hcz16_2
                     try clear hcz16_3
                     try clear hcz17_0
                     try clear hcz17_1
                     try clear hcz17_2
                     try clear hcz17_3
                     try clear hcz18_0
                     try clear hcz18_1
                     try clear hcz18_2
                     try clear hcz18_3
                     try clear hcz23_0
                     try clear hcz23_1
                     try clear hcz23_2
                     try clear hcz23_3
                     try clear hcz24_0
                     try clear hcz24_1
                     try clear hcz24_2
                     try clear hcz24_3
                     try clear hcz26_0
                     try clear hcz26_1
                     try clear hcz26_2
                     try clear hcz26_3
                     try clear hcz29_0
                     try clear hcz29_1
                     try clear hcz29_2
                     try clear hcz29_3
                     try clear hcz31_0
                     try clear hcz31_1
                     try clear hcz31_2
                     try clear hcz31_3
                     try clear hcz35_0
                     try clear hcz35_1
                     try clear hcz35_2
                     try clear hcz35_3
                     try clear hcz36_0
                     try clear hcz36_1
                     try clear hcz36_2
                     try clear hcz36_3
                     try clear hcz41_0
                     try clear hcz41_1
                     try clear hcz41_2
                     try clear hcz41_3
                     try clear hcz44_0
                     try clear hcz44_1
                     try clear hcz47_0
                     try clear hcz47_1
                     try clear hcz49_0
                     try clear hcz49_1
                     try clear hcz50_0
                     try clear hcz50_1
                     try clear hcz50_2
                     try clear hcz50_3
                     try clear hcz5_0
                     try clear hcz5_1
                     try clear hcz5_2
                     try clear hcz5_3
                     try clear hcz7_0
                     try clear hcz7_1
                     try clear hcz7_2
                     try clear hcz7_3
                     try clear hcz9_0
                     try clear hcz9_1
                     try clear hcz9_2
                     try clear hcz9_3
                     try clear hfz10_0
                     try clear hfz10_1
                     try clear hfz10_2
                     try clear hfz10_3
                     try clear hfz16_0
                     try clear hfz16_1
                     try clear hfz16_2
                     try clear hfz16_3
                     try clear hfz17_0
                     try clear hfz17_1
                     try clear hfz17_2
                     try clear hfz17_3
                     try clear hfz18_0
                     try clear hfz18_1
                     try clear hfz18_2
                     try clear hfz18_3
                     try clear hfz23_0
                     try clear hfz23_1
                     try clear hfz23_2
                     try clear hfz23_3
                     try clear hfz24_0
                     try clear hfz24_1
                     try clear hfz24_2
                     try clear hfz24_3
                     try clear hfz26_0
                     try clear hfz26_1
                     try clear hfz26_2
                     try clear hfz26_3
                     try clear hfz29_0
                     try clear hfz29_1
                     try clear hfz29_2
                     try clear hfz29_3
                     try clear hfz31_0
                     try clear hfz31_1
                     try clear hfz31_2
                     try clear hfz31_3
                     try clear hfz35_0
                     try clear hfz35_1
                     try clear hfz35_2
                     try clear hfz35_3
                     try clear hfz36_0
                     try clear hfz36_1
                     try clear hfz36_2
                     try clear hfz36_3
                     try clear hfz41_0
                     try clear hfz41_1
                     try clear hfz41_2
                     try clear hfz41_3
                     try clear hfz44_0
                     try clear hfz44_1
                     try clear hfz47_0
                     try clear hfz47_1
                     try clear hfz49_0
                     try clear hfz49_1
                     try clear hfz50_0
                     try clear hfz50_1
                     try clear hfz50_2
                     try clear hfz50_3
                     try clear hfz5_0
                     try clear hfz5_1
                     try clear hfz5_2
                     try clear hfz5_3
                     try clear hfz7_0
                     try clear hfz7_1
                     try clear hfz7_2
                     try clear hfz7_3
                     try clear hfz9_0
                     try clear hfz9_1
                     try clear hfz9_2
                     try clear hfz9_3
                     try clear hx102_0
                     try clear hx104_0
                     try clear hx108_0
                     try clear hx108_1
                     try clear p1
                     try clear p10
                     try clear p102
                     try clear p104
                     try clear p108
                     try clear p2
                     try clear p6
                     try clear q1
                     try clear q10
                     try clear q102
                     try clear q104
                     try clear q108
                     obtain ⟨kq, x100_39, rfl, HA, HJ39, BK101, BK109, HB⟩ := hcut
                     cases kq with
                     | zero => exact absurd HA.out (by simp [wickerref02_Check.j6])
                     | succ kj39 =>
                      have H := HA.out
                      clear HA
                      simp only [wickerref02_Check.j6] at H
                      by_cases c51 : x100_39 = true
                      ·subst c51
                       have H1 : (some 3) = some r := by rw [if_pos rfl] at H; exact H
                       clear H
                       have H := H1
                       clear H1
                       obtain rfl := Option.some.inj H
                       go_wp2
                       go_ret
                       exact ⟨by first | rfl | (simp [errW_none, errW_some] <;> rfl) | (simp [*, errW_none, errW_some] <;> rfl), by repeat (first | (with_reducible first | exact HB.out | apply below_alloc | apply pw_below_drewN | apply below_drew1 | refine below_set ?_ GE101.out | refine below_set ?_ GE109.out) | exact HB.out)⟩
                      ·replace c51 := Bool.eq_false_iff.mpr c51
                       subst c51
                       have H1 : (wickerref02_Check.l3 kj39 x5_6 0 l0_0 l0_1 a0_2 l0_3 ((rd_T38 l0_3 x5_6).f0) ((rd_T38 l0_3 x5_6).f1)) = some r := by rw [if_neg (show ¬ (false = true) by decide)] at H; exact H
                       clear H
                       have H := H1
                       clear H1
                       have H' := Aside0.mk H
                       clear H
                       go_wp2
                       go_loopg [7] kj39 (fun kq v7 w' => ∃ (x7_8 : Int), v7 = .int .i64 x7_8 ∧ Aside0 (wickerref02_Check.l3 kq x5_6 x7_8 l0_0 l0_1 a0_2 l0_3 ((rd_T38 l0_3 x5_6).f0) ((rd_T38 l0_3 x5_6).f1) = some r) ∧ Aside0 (kq ≤ kj39) ∧ Aside0 (w'.heap[gb101]? = some (.cells #[(.slice A0_0 l0_0.length c0_0), (.slice A0_1 l0_1.length c0_1), .int .i64 a0_2, (.slice (some ad108) l0_3.length c0_3)] 30 (0, 0))) ∧ Aside0 (w'.heap[gb109]? = some (.cells #[.int .i64 ((rd_T38 l0_3 x5_6).f0), (.slice A108_1 ((rd_T38 l0_3 x5_6).f1).length c108_1)] 38 (0, 0))) ∧ Aside0 (Below w.heap.size w w'))
                       case atStart => exact ⟨(0), (by first | rfl | (simp; done) | (simp [*]; done)), H', ⟨Nat.le_refl _⟩, ⟨by (with_reducible repeat (first | refine blk_drewN ?_ _ | refine blk_drew ?_ | refine blk_alloc ?_ _)); exact BK101.out⟩, ⟨by (with_reducible repeat (first | refine blk_drewN ?_ _ | refine blk_drew ?_ | refine blk_alloc ?_ _)); exact BK109.out⟩, ⟨by repeat (first | (with_reducible first | exact HB.out | apply below_alloc | apply pw_below_drewN | apply below_drew1 | refine below_set ?_ GE101.out | refine below_set ?_ GE109.out) | exact HB.out)⟩⟩
                       case round =>
                        clear H'
                        try clear c1
                        try clear p1
                        try clear q1
                        try clear hx1
                        try clear c2
                        try clear p2
                        try clear c3
                        try clear c4
                        try clear c4b0
                        try clear c4b1
                        try clear c5
                        try clear c6
                        try clear c6b0
                        try clear c6b1
                        try clear p6
                        try clear c8
                        try clear c8b0
                        try clear c8b1
                        try clear c10
                        try clear p10
                        try clear q10
                        try clear hx10
                        try clear c11
                        try clear c12
                        try clear c12b0
                        try clear c13
                        try clear c13b0
                        try clear c15
                        try clear c19
                        try clear c19b0
                        try clear c20
                        try clear c20b0
                        try clear c22
                        try clear c28
                        try clear c32
                        try clear c34
                        try clear c34b0
                        try clear c37
                        try clear c38
                        try clear c38b0
                        try clear c39
                        try clear c39b0
                        try clear c43
                        try clear c45
                        try clear c45b0
                        try clear c46
                        try clear c48
                        try clear c51
                        try clear hcz10_0
                        try clear hcz10_1
                        try clear hcz10_2
                        try clear hcz10_3
                        try clear hcz16_0
                        try clear hcz16_1
                        try clear hcz16_2
                        try clear hcz16_3
                        try clear hcz17_0
                        try clear hcz17_1
                        try clear hcz17_2
                        try clear hcz17_3
                        try clear hcz18_0
                        try clear hcz18_1
                        try clear hcz18_2
                        try clear hcz18_3
                        try clear hcz23_0
                        try clear hcz23_1
                        try clear hcz23_2
                        try clear hcz23_3
                        try clear hcz24_0
                        try clear hcz24_1
                        try clear hcz24_2
                        try clear hcz24_3
                        try clear hcz26_0
                        try clear hcz26_1
                        try clear hcz26_2
                        try clear hcz26_3
                        try clear hcz29_0
                        try clear hcz29_1
                        try clear hcz29_2
                        try clear hcz29_3
                        try clear hcz31_0
                        try clear hcz31_1
                        try clear hcz31_2
                        try clear hcz31_3
                        try clear hcz35_0
                        try clear hcz35_1
                        try clear hcz35_2
                        try clear hcz35_3
                        try clear hcz36_0
                        try clear hcz36_1
                        try clear hcz36_2
                        try clear hcz36_3
                        try clear hcz41_0
                        try clear hcz41_1
                        try clear hcz41_2
                        try clear hcz41_3
                        try clear hcz44_0
                        try clear hcz44_1
                        try clear hcz47_0
                        try clear hcz47_1
                        try clear hcz49_0
                        try clear hcz49_1
                        try clear hcz50_0
                        try clear hcz50_1
                        try clear hcz50_2
                        try clear hcz50_3
                        try clear hcz5_0
                        try clear hcz5_1
                        try clear hcz5_2
                        try clear hcz5_3
                        try clear hcz7_0
                        try clear hcz7_1
                        try clear hcz7_2
                        try clear hcz7_3
                        try clear hcz9_0
                        try clear hcz9_1
                        try clear hcz9_2
                        try clear hcz9_3
                        try clear hfz10_0
                        try clear hfz10_1
                        try clear hfz10_2
                        try clear hfz10_3
                        try clear hfz16_0
                        try clear hfz16_1
                        try clear hfz16_2
                        try clear hfz16_3
                        try clear hfz17_0
                        try clear hfz17_1
                        try clear hfz17_2
                        try clear hfz17_3
                        try clear hfz18_0
                        try clear hfz18_1
                        try clear hfz18_2
                        try clear hfz18_3
                        try clear hfz23_0
                        try clear hfz23_1
                        try clear hfz23_2
                        try clear hfz23_3
                        try clear hfz24_0
                        try clear hfz24_1
                        try clear hfz24_2
                        try clear hfz24_3
                        try clear hfz26_0
                        try clear hfz26_1
                        try clear hfz26_2
                        try clear hfz26_3
                        try clear hfz29_0
                        try clear hfz29_1
                        try clear hfz29_2
                        try clear hfz29_3
                        try clear hfz31_0
                        try clear hfz31_1
                        try clear hfz31_2
                        try clear hfz31_3
                        try clear hfz35_0
                        try clear hfz35_1
                        try clear hfz35_2
                        try clear hfz35_3
                        try clear hfz36_0
                        try clear hfz36_1
                        try clear hfz36_2
                        try clear hfz36_3
                        try clear hfz41_0
                        try clear hfz41_1
                        try clear hfz41_2
                        try clear hfz41_3
                        try clear hfz44_0
                        try clear hfz44_1
                        try clear hfz47_0
                        try clear hfz47_1
                        try clear hfz49_0
                        try clear hfz49_1
                        try clear hfz50_0
                        try clear hfz50_1
                        try clear hfz50_2
                        try clear hfz50_3
                        try clear hfz5_0
                        try clear hfz5_1
                        try clear hfz5_2
                        try clear hfz5_3
                        try clear hfz7_0
                        try clear hfz7_1
                        try clear hfz7_2
                        try clear hfz7_3
                        try clear hfz9_0
                        try clear hfz9_1
                        try clear hfz9_2
                        try clear hfz9_3
                        try clear hx102_0
                        try clear hx104_0
                        try clear hx108_0
                        try clear hx108_1
                        try clear p1
                        try clear p10
                        try clear p102
                        try clear p104
                        try clear p108
                        try clear p2
                        try clear p6
                        try clear q1
                        try clear q10
                        try clear q102
                        try clear q104
                        try clear q108
                        obtain ⟨x7_8, rfl, HA, HK8, BK101, BK109, HB⟩ := hrel
                        cases gk with
                        | zero => exact absurd HA.out (by simp [wickerref02_Check.l3])
                        | succ k8 =>
                         have H := HA.out
                         clear HA
                         simp only [wickerref02_Check.l3] at H
                         by_cases c52 : x7_8 < (((rd_T38 l0_3 x5_6).f1).length : Int)
                         ·rw [if_pos c52] at H
                          have c52b0 : decide (x7_8 < (((rd_T38 l0_3 x5_6).f1).length : Int)) = true := decide_eq_true c52
                          clear c52
                          by_cases c53 : 0 ≤ x7_8
                          ·rw [if_pos c53] at H
                           have c53b0 : decide (0 ≤ x7_8) = true := decide_eq_true c53
                           clear c53
                           replace H := Option.bind_eq_some_iff.mp H
                           obtain ⟨t111, A540, H⟩ := H
                           replace H : (if t111 = true then (wickerref02_Check.l3 k8 x5_6 (wrap64 (x7_8 + 1)) l0_0 l0_1 a0_2 l0_3 ((rd_T38 l0_3 x5_6).f0) ((rd_T38 l0_3 x5_6).f1)) else (some 3)) = some r := H
                           have A54 := Aside0.mk A540
                           clear A540
                           by_cases c55 : t111 = true
                           ·subst c55
                            have H1 : (wickerref02_Check.l3 k8 x5_6 (wrap64 (x7_8 + 1)) l0_0 l0_1 a0_2 l0_3 ((rd_T38 l0_3 x5_6).f0) ((rd_T38 l0_3 x5_6).f1)) = some r := by rw [if_pos rfl] at H; exact H
                            clear H
                            have H := H1
                            clear H1
                            have H' := Aside0.mk H
                            clear H
                            have hnb56 := NB109_101.out
                            have hnc56 := NB101_109.out
                            have hcz57_0 : wr.cell? ⟨gb109, 0, none⟩ = some (.int .i64 ((rd_T38 l0_3 x5_6).f0)) := (blk_cell BK109.out 0).trans rfl
                            have hcz57_1 : wr.cell? ⟨gb109, 1, none⟩ = some (.slice A108_1 ((rd_T38 l0_3 x5_6).f1).length c108_1) := (blk_cell BK109.out 1).trans rfl
                            have hfz57_0 := blk_frozen BK109.out 0
                            have hfz57_1 := blk_frozen BK109.out 1
                            try go_wp2
                            have n0_ := Aside0.mk (blk_drew BK101.out)
                            have n1_ := Aside0.mk (blk_drew BK109.out)
                            have n2_ := Aside0.mk (below_drew1 HB.out)
                            clear BK101
                            clear BK109
                            clear HB
                            have BK101 := n0_
                            have BK109 := n1_
                            have HB := n2_
                            clear n0_ n1_ n2_
                            have p110 : 0 ≤ (x7_8 : Int) := of_decide_eq_true (by first | (with_reducible assumption) | assumption)
                            have q110 : x7_8 < (((rd_T38 l0_3 x5_6).f1).length : Int) := of_decide_eq_true (by first | (with_reducible assumption) | assumption)
                            obtain ⟨ad110, e110, hx110_0⟩ := Kd.at_int HR108_1.out x7_8 p110 q110
                            have hw110_0 := hx110_0
                            cases e110
                            replace hx110_0 := (HB.out.cell (World.block_lt_of_cell? w _ hx110_0)).trans hx110_0
                            replace p110 := eq_true p110
                            replace q110 := eq_true q110
                            refine start_ (n := 8) (S := fun w' => w'.cell? ⟨gb101, 0, none⟩ = some (.slice A0_0 l0_0.length c0_0) ∧ w'.cell? ⟨gb101, 1, none⟩ = some (.slice A0_1 l0_1.length c0_1) ∧ w'.cell? ⟨gb101, 2, none⟩ = some (.int .i64 a0_2) ∧ w'.cell? ⟨gb101, 3, none⟩ = some (.slice (some ad108) l0_3.length c0_3) ∧ w'.cell? ⟨gb109, 0, none⟩ = some (.int .i64 ((rd_T38 l0_3 x5_6).f0)) ∧ w'.cell? ⟨gb109, 1, none⟩ = some (.slice (some ad110) ((rd_T38 l0_3 x5_6).f1).length c108_1) ∧ w'.cell? (ad110.add (x7_8).toNat) = some (.int .i64 (rd ((rd_T38 l0_3 x5_6).f1) x7_8))) (ds := []) #[false, false, false, false, false, false, false, false] (by kernel_rfl) rfl rfl ⟨(blk_cell BK101.out 0).trans rfl, (blk_cell BK101.out 1).trans rfl, (blk_cell BK101.out 2).trans rfl, (blk_cell BK101.out 3).trans rfl, (blk_cell BK109.out 0).trans rfl, (blk_cell BK109.out 1).trans rfl, ((HB.out.cell (World.block_lt_of_cell? w _ hw110_0)).trans hw110_0)⟩ (fun hHeld => ?_); refine with_tabW wickerref02_Check.tab26 wickerref02_Check.bits26 (fun HT_ HW_ => ?_)
                            generalize wr.drew = w58 at BK101 BK109 HB hx110_0 hHeld ⊢
                            refine pure_ (i := 1) (N := some 109) (v := ?_) (a' := ?_) #[false, true, false, false, false, false, false, false] rfl rfl (any_of HT_.out (by kernel_rfl)) (fun _ _ _ h => h) (Or.inl ⟨by rfl, ?_⟩) ?_ ?_
                            rotate_left
                            ·intro w'
                             go_simp
                             with_reducible rfl
                            rotate_left
                            ·simp only [Act.put, List.setIfInBounds_toArray, List.set_cons_zero, List.set_cons_succ, i64_w, i32_w]
                             rfl
                            refine pure_ (i := 3) (N := some 111) (v := ?_) (a' := ?_) #[false, true, false, true, false, false, false, false] rfl rfl (any_of HT_.out (by kernel_rfl)) (fun _ _ _ h => h) (Or.inl ⟨by rfl, ?_⟩) ?_ ?_
                            rotate_left
                            ·intro w'
                             go_simp
                             with_reducible rfl
                            rotate_left
                            ·simp only [Act.put, List.setIfInBounds_toArray, List.set_cons_zero, List.set_cons_succ, i64_w, i32_w]
                             rfl
                            refine take_ (i := 0) (N := some 108) (v := ?_) (a' := ?_) #[true, true, false, true, false, false, false, false] rfl rfl (take_ofW HT_.out HW_.out (by kernel_rfl)) (fun _ _ _ h => h) (Or.inl ⟨by rfl, ?_⟩) hHeld ?_ ?_
                            rotate_left
                            ·rintro w' ⟨s0, s1, s2, s3, s4, s5, s6⟩
                             go_simp
                             with_reducible rfl
                            rotate_left
                            ·simp only [Act.put, List.setIfInBounds_toArray, List.set_cons_zero, List.set_cons_succ, i64_w, i32_w]
                             rfl
                            refine take_ (i := 2) (N := some 110) (v := ?_) (a' := ?_) #[true, true, true, true, false, false, false, false] rfl rfl (take_ofW HT_.out HW_.out (by kernel_rfl)) (fun _ _ _ h => h) (Or.inl ⟨by rfl, ?_⟩) hHeld ?_ ?_
                            rotate_left
                            ·rintro w' ⟨s0, s1, s2, s3, s4, s5, s6⟩
                             go_simp
                             with_reducible rfl
                            rotate_left
                            ·simp only [Act.put, List.setIfInBounds_toArray, List.set_cons_zero, List.set_cons_succ, i64_w, i32_w]
                             rfl
                            refine pure_ (i := 4) (N := some 112) (v := ?_) (a' := ?_) #[true, true, true, true, true, false, false, false] rfl rfl (any_of HT_.out (by kernel_rfl)) (fun _ _ _ h => h) (Or.inl ⟨by rfl, ?_⟩) ?_ ?_
                            rotate_left
                            ·intro w'
                             go_simp
                             with_reducible rfl
                            rotate_left
                            ·simp only [Act.put, List.setIfInBounds_toArray, List.set_cons_zero, List.set_cons_succ, i64_w, i32_w]
                             rfl
                            refine take_ (i := 5) (N := some 113) (v := ?_) (a' := ?_) #[true, true, true, true, true, true, false, false] rfl rfl (take_ofW HT_.out HW_.out (by kernel_rfl)) (fun _ _ _ h => h) (Or.inl ⟨by rfl, ?_⟩) hHeld ?_ ?_
                            rotate_left
                            ·rintro w' ⟨s0, s1, s2, s3, s4, s5, s6⟩
                             go_simp
                             with_reducible rfl
                            rotate_left
                            ·simp only [Act.put, List.setIfInBounds_toArray, List.set_cons_zero, List.set_cons_succ, i64_w, i32_w]
                             rfl
                            refine one_ (i := 6) (N := some 114) #[true, true, true, true, true, true, true, false] rfl rfl (one_of HT_.out (by kernel_rfl)) (by decide) (fun K hK => ?_)
                            refine goes_ Tryd.func83 (by kernel_rfl) rfl #[.agg #[.slice A0_0 l0_0.length c0_0, .slice A0_1 l0_1.length c0_1, .int .i64 a0_2, .slice (some ad108) l0_3.length c0_3], .int .i64 (rd ((rd_T38 l0_3 x5_6).f1) x7_8)] (by rfl) rfl rfl (by (try simp only [List.map_toArray, List.map_cons, List.map_nil]); first | done | rfl | (simp only [List.length_drop, List.length_take]; rfl)) ?_
                            with_reducible refine (wickerref02_Has.calls _ _ l0_0 _ _ l0_1 a0_2 _ _ l0_3 (rd ((rd_T38 l0_3 x5_6).f1) x7_8) true _ ?side1 ?side2 ?side3 ?side4 ?side5 ?side6 A54.out).mono ?_
                            (case side1 => repeat (first | exact (Kd.C_below HR0_0.out HB.out) | (with_reducible refine Kd.C_alloc ?_ _) | (with_reducible refine Kd.C_drewN ?_ _) | (with_reducible refine Kd.C_drew ?_)))
                            (case side2 => exact HC0_0.out)
                            (case side3 => repeat (first | exact (Kd.C_below HR0_1.out HB.out) | (with_reducible refine Kd.C_alloc ?_ _) | (with_reducible refine Kd.C_drewN ?_ _) | (with_reducible refine Kd.C_drew ?_)))
                            (case side4 => exact HC0_1.out)
                            (case side5 => repeat (first | exact (Kd.C_below HR0_3.out HB.out) | (with_reducible refine Kd.C_alloc ?_ _) | (with_reducible refine Kd.C_drewN ?_ _) | (with_reducible refine Kd.C_drew ?_)))
                            (case side6 => exact HC0_3.out)
                            rintro e w59 ⟨rfl, hb⟩
                            refine ⟨_, rfl, ?_⟩
                            have n0_ := Aside0.mk (blk_below (g := gb101) (o := .cells #[.slice A0_0 l0_0.length c0_0, .slice A0_1 l0_1.length c0_1, .int .i64 a0_2, .slice (some ad108) l0_3.length c0_3] 30 (0, 0)) (by (with_reducible repeat (first | refine blk_drewN ?_ _ | refine blk_drew ?_ | refine blk_alloc ?_ _)); exact BK101.out) hb)
                            have n1_ := Aside0.mk (blk_below (g := gb109) (o := .cells #[.int .i64 ((rd_T38 l0_3 x5_6).f0), .slice (some ad110) ((rd_T38 l0_3 x5_6).f1).length c108_1] 38 (0, 0)) (by (with_reducible repeat (first | refine blk_drewN ?_ _ | refine blk_drew ?_ | refine blk_alloc ?_ _)); exact BK109.out) hb)
                            have n2_ := Aside0.mk (below_step (by repeat (first | (with_reducible first | exact HB.out | apply below_alloc | apply pw_below_drewN | apply below_drew1 | refine below_set ?_ GE101.out | refine below_set ?_ GE109.out) | exact HB.out)) hb)
                            clear BK101
                            clear BK109
                            clear HB
                            have BK101 := n0_
                            have BK109 := n1_
                            have HB := n2_
                            clear n0_ n1_ n2_
                            (try clear hb)
                            (try clear hb2)
                            (try clear hk)
                            (try clear hi)
                            refine hK.out _ _ ⟨(blk_cell BK101.out 0).trans rfl, (blk_cell BK101.out 1).trans rfl, (blk_cell BK101.out 2).trans rfl, (blk_cell BK101.out 3).trans rfl, (blk_cell BK109.out 0).trans rfl, (blk_cell BK109.out 1).trans rfl, ((HB.out.cell (World.block_lt_of_cell? w _ hw110_0)).trans hw110_0)⟩ (fun hHeld => ?_)
                            clear hK K
                            refine norm_ (a' := ?_) ?_ ?_
                            rotate_left
                            ·show Act.put _ (some 114) _ = _
                             simp only [Act.put, List.setIfInBounds_toArray, List.set_cons_zero, List.set_cons_succ, i64_w, i32_w]
                             rfl
                            refine pure_ (i := 7) (N := some 115) (v := ?_) (a' := ?_) #[true, true, true, true, true, true, true, true] rfl rfl (any_of HT_.out (by kernel_rfl)) (fun _ _ _ h => h) (Or.inl ⟨by rfl, ?_⟩) ?_ ?_
                            rotate_left
                            ·intro w'
                             go_simp
                             with_reducible rfl
                            rotate_left
                            ·simp only [Act.put, List.setIfInBounds_toArray, List.set_cons_zero, List.set_cons_succ, i64_w, i32_w]
                             rfl
                            refine done_ (done_of HT_.out (by kernel_rfl)) ?_
                            try go_wp2
                            go_roundg k8
                            case measure => have := HJ1.out; have := HK2.out; have := HK3.out; have := HJ24.out; have := HJ32.out; have := HK6.out; have := HJ39.out; have := HK8.out; omega
                            case rel => exact ⟨(wrap64 (x7_8 + 1)), (by first | rfl | (simp; done) | (simp [*]; done)), H', ⟨by have := HJ1.out; have := HK2.out; have := HK3.out; have := HJ24.out; have := HJ32.out; have := HK6.out; have := HJ39.out; have := HK8.out; omega⟩, ⟨by (with_reducible repeat (first | refine blk_drewN ?_ _ | refine blk_drew ?_ | refine blk_alloc ?_ _)); exact BK101.out⟩, ⟨by (with_reducible repeat (first | refine blk_drewN ?_ _ | refine blk_drew ?_ | refine blk_alloc ?_ _)); exact BK109.out⟩, ⟨by repeat (first | (with_reducible first | exact HB.out | apply below_alloc | apply pw_below_drewN | apply below_drew1 | refine below_set ?_ GE101.out | refine below_set ?_ GE109.out) | exact HB.out)⟩⟩
                           ·replace c55 := Bool.eq_false_iff.mpr c55
                            subst c55
                            have H1 : (some 3) = some r := by rw [if_neg (show ¬ (false = true) by decide)] at H; exact H
                            clear H
                            have H := H1
                            clear H1
                            obtain rfl := Option.some.inj H
                            have hnb60 := NB109_101.out
                            have hnc60 := NB101_109.out
                            have hcz61_0 : wr.cell? ⟨gb109, 0, none⟩ = some (.int .i64 ((rd_T38 l0_3 x5_6).f0)) := (blk_cell BK109.out 0).trans rfl
                            have hcz61_1 : wr.cell? ⟨gb109, 1, none⟩ = some (.slice A108_1 ((rd_T38 l0_3 x5_6).f1).length c108_1) := (blk_cell BK109.out 1).trans rfl
                            have hfz61_0 := blk_frozen BK109.out 0
                            have hfz61_1 := blk_frozen BK109.out 1
                            try go_wp2
                            have n0_ := Aside0.mk (blk_drew BK101.out)
                            have n1_ := Aside0.mk (blk_drew BK109.out)
                            have n2_ := Aside0.mk (below_drew1 HB.out)
                            clear BK101
                            clear BK109
                            clear HB
                            have BK101 := n0_
                            have BK109 := n1_
                            have HB := n2_
                            clear n0_ n1_ n2_
                            have p110 : 0 ≤ (x7_8 : Int) := of_decide_eq_true (by first | (with_reducible assumption) | assumption)
                            have q110 : x7_8 < (((rd_T38 l0_3 x5_6).f1).length : Int) := of_decide_eq_true (by first | (with_reducible assumption) | assumption)
                            obtain ⟨ad110, e110, hx110_0⟩ := Kd.at_int HR108_1.out x7_8 p110 q110
                            have hw110_0 := hx110_0
                            cases e110
                            replace hx110_0 := (HB.out.cell (World.block_lt_of_cell? w _ hx110_0)).trans hx110_0
                            replace p110 := eq_true p110
                            replace q110 := eq_true q110
                            refine start_ (n := 8) (S := fun w' => w'.cell? ⟨gb101, 0, none⟩ = some (.slice A0_0 l0_0.length c0_0) ∧ w'.cell? ⟨gb101, 1, none⟩ = some (.slice A0_1 l0_1.length c0_1) ∧ w'.cell? ⟨gb101, 2, none⟩ = some (.int .i64 a0_2) ∧ w'.cell? ⟨gb101, 3, none⟩ = some (.slice (some ad108) l0_3.length c0_3) ∧ w'.cell? ⟨gb109, 0, none⟩ = some (.int .i64 ((rd_T38 l0_3 x5_6).f0)) ∧ w'.cell? ⟨gb109, 1, none⟩ = some (.slice (some ad110) ((rd_T38 l0_3 x5_6).f1).length c108_1) ∧ w'.cell? (ad110.add (x7_8).toNat) = some (.int .i64 (rd ((rd_T38 l0_3 x5_6).f1) x7_8))) (ds := []) #[false, false, false, false, false, false, false, false] (by kernel_rfl) rfl rfl ⟨(blk_cell BK101.out 0).trans rfl, (blk_cell BK101.out 1).trans rfl, (blk_cell BK101.out 2).trans rfl, (blk_cell BK101.out 3).trans rfl, (blk_cell BK109.out 0).trans rfl, (blk_cell BK109.out 1).trans rfl, ((HB.out.cell (World.block_lt_of_cell? w _ hw110_0)).trans hw110_0)⟩ (fun hHeld => ?_); refine with_tabW wickerref02_Check.tab26 wickerref02_Check.bits26 (fun HT_ HW_ => ?_)
                            generalize wr.drew = w62 at BK101 BK109 HB hx110_0 hHeld ⊢
                            refine pure_ (i := 1) (N := some 109) (v := ?_) (a' := ?_) #[false, true, false, false, false, false, false, false] rfl rfl (any_of HT_.out (by kernel_rfl)) (fun _ _ _ h => h) (Or.inl ⟨by rfl, ?_⟩) ?_ ?_
                            rotate_left
                            ·intro w'
                             go_simp
                             with_reducible rfl
                            rotate_left
                            ·simp only [Act.put, List.setIfInBounds_toArray, List.set_cons_zero, List.set_cons_succ, i64_w, i32_w]
                             rfl
                            refine pure_ (i := 3) (N := some 111) (v := ?_) (a' := ?_) #[false, true, false, true, false, false, false, false] rfl rfl (any_of HT_.out (by kernel_rfl)) (fun _ _ _ h => h) (Or.inl ⟨by rfl, ?_⟩) ?_ ?_
                            rotate_left
                            ·intro w'
                             go_simp
                             with_reducible rfl
                            rotate_left
                            ·simp only [Act.put, List.setIfInBounds_toArray, List.set_cons_zero, List.set_cons_succ, i64_w, i32_w]
                             rfl
                            refine take_ (i := 0) (N := some 108) (v := ?_) (a' := ?_) #[true, true, false, true, false, false, false, false] rfl rfl (take_ofW HT_.out HW_.out (by kernel_rfl)) (fun _ _ _ h => h) (Or.inl ⟨by rfl, ?_⟩) hHeld ?_ ?_
                            rotate_left
                            ·rintro w' ⟨s0, s1, s2, s3, s4, s5, s6⟩
                             go_simp
                             with_reducible rfl
                            rotate_left
                            ·simp only [Act.put, List.setIfInBounds_toArray, List.set_cons_zero, List.set_cons_succ, i64_w, i32_w]
                             rfl
                            refine take_ (i := 2) (N := some 110) (v := ?_) (a' := ?_) #[true, true, true, true, false, false, false, false] rfl rfl (take_ofW HT_.out HW_.out (by kernel_rfl)) (fun _ _ _ h => h) (Or.inl ⟨by rfl, ?_⟩) hHeld ?_ ?_
                            rotate_left
                            ·rintro w' ⟨s0, s1, s2, s3, s4, s5, s6⟩
                             go_simp
                             with_reducible rfl
                            rotate_left
                            ·simp only [Act.put, List.setIfInBounds_toArray, List.set_cons_zero, List.set_cons_succ, i64_w, i32_w]
                             rfl
                            refine pure_ (i := 4) (N := some 112) (v := ?_) (a' := ?_) #[true, true, true, true, true, false, false, false] rfl rfl (any_of HT_.out (by kernel_rfl)) (fun _ _ _ h => h) (Or.inl ⟨by rfl, ?_⟩) ?_ ?_
                            rotate_left
                            ·intro w'
                             go_simp
                             with_reducible rfl
                            rotate_left
                            ·simp only [Act.put, List.setIfInBounds_toArray, List.set_cons_zero, List.set_cons_succ, i64_w, i32_w]
                             rfl
                            refine take_ (i := 5) (N := some 113) (v := ?_) (a' := ?_) #[true, true, true, true, true, true, false, false] rfl rfl (take_ofW HT_.out HW_.out (by kernel_rfl)) (fun _ _ _ h => h) (Or.inl ⟨by rfl, ?_⟩) hHeld ?_ ?_
                            rotate_left
                            ·rintro w' ⟨s0, s1, s2, s3, s4, s5, s6⟩
                             go_simp
                             with_reducible rfl
                            rotate_left
                            ·simp only [Act.put, List.setIfInBounds_toArray, List.set_cons_zero, List.set_cons_succ, i64_w, i32_w]
                             rfl
                            refine one_ (i := 6) (N := some 114) #[true, true, true, true, true, true, true, false] rfl rfl (one_of HT_.out (by kernel_rfl)) (by decide) (fun K hK => ?_)
                            refine goes_ Tryd.func83 (by kernel_rfl) rfl #[.agg #[.slice A0_0 l0_0.length c0_0, .slice A0_1 l0_1.length c0_1, .int .i64 a0_2, .slice (some ad108) l0_3.length c0_3], .int .i64 (rd ((rd_T38 l0_3 x5_6).f1) x7_8)] (by rfl) rfl rfl (by (try simp only [List.map_toArray, List.map_cons, List.map_nil]); first | done | rfl | (simp only [List.length_drop, List.length_take]; rfl)) ?_
                            with_reducible refine (wickerref02_Has.calls _ _ l0_0 _ _ l0_1 a0_2 _ _ l0_3 (rd ((rd_T38 l0_3 x5_6).f1) x7_8) false _ ?side1 ?side2 ?side3 ?side4 ?side5 ?side6 A54.out).mono ?_
                            (case side1 => repeat (first | exact (Kd.C_below HR0_0.out HB.out) | (with_reducible refine Kd.C_alloc ?_ _) | (with_reducible refine Kd.C_drewN ?_ _) | (with_reducible refine Kd.C_drew ?_)))
                            (case side2 => exact HC0_0.out)
                            (case side3 => repeat (first | exact (Kd.C_below HR0_1.out HB.out) | (with_reducible refine Kd.C_alloc ?_ _) | (with_reducible refine Kd.C_drewN ?_ _) | (with_reducible refine Kd.C_drew ?_)))
                            (case side4 => exact HC0_1.out)
                            (case side5 => repeat (first | exact (Kd.C_below HR0_3.out HB.out) | (with_reducible refine Kd.C_alloc ?_ _) | (with_reducible refine Kd.C_drewN ?_ _) | (with_reducible refine Kd.C_drew ?_)))
                            (case side6 => exact HC0_3.out)
                            rintro e w63 ⟨rfl, hb⟩
                            refine ⟨_, rfl, ?_⟩
                            have n0_ := Aside0.mk (blk_below (g := gb101) (o := .cells #[.slice A0_0 l0_0.length c0_0, .slice A0_1 l0_1.length c0_1, .int .i64 a0_2, .slice (some ad108) l0_3.length c0_3] 30 (0, 0)) (by (with_reducible repeat (first | refine blk_drewN ?_ _ | refine blk_drew ?_ | refine blk_alloc ?_ _)); exact BK101.out) hb)
                            have n1_ := Aside0.mk (blk_below (g := gb109) (o := .cells #[.int .i64 ((rd_T38 l0_3 x5_6).f0), .slice (some ad110) ((rd_T38 l0_3 x5_6).f1).length c108_1] 38 (0, 0)) (by (with_reducible repeat (first | refine blk_drewN ?_ _ | refine blk_drew ?_ | refine blk_alloc ?_ _)); exact BK109.out) hb)
                            have n2_ := Aside0.mk (below_step (by repeat (first | (with_reducible first | exact HB.out | apply below_alloc | apply pw_below_drewN | apply below_drew1 | refine below_set ?_ GE101.out | refine below_set ?_ GE109.out) | exact HB.out)) hb)
                            clear BK101
                            clear BK109
                            clear HB
                            have BK101 := n0_
                            have BK109 := n1_
                            have HB := n2_
                            clear n0_ n1_ n2_
                            (try clear hb)
                            (try clear hb2)
                            (try clear hk)
                            (try clear hi)
                            refine hK.out _ _ ⟨(blk_cell BK101.out 0).trans rfl, (blk_cell BK101.out 1).trans rfl, (blk_cell BK101.out 2).trans rfl, (blk_cell BK101.out 3).trans rfl, (blk_cell BK109.out 0).trans rfl, (blk_cell BK109.out 1).trans rfl, ((HB.out.cell (World.block_lt_of_cell? w _ hw110_0)).trans hw110_0)⟩ (fun hHeld => ?_)
                            clear hK K
                            refine norm_ (a' := ?_) ?_ ?_
                            rotate_left
                            ·show Act.put _ (some 114) _ = _
                             simp only [Act.put, List.setIfInBounds_toArray, List.set_cons_zero, List.set_cons_succ, i64_w, i32_w]
                             rfl
                            refine pure_ (i := 7) (N := some 115) (v := ?_) (a' := ?_) #[true, true, true, true, true, true, true, true] rfl rfl (any_of HT_.out (by kernel_rfl)) (fun _ _ _ h => h) (Or.inl ⟨by rfl, ?_⟩) ?_ ?_
                            rotate_left
                            ·intro w'
                             go_simp
                             with_reducible rfl
                            rotate_left
                            ·simp only [Act.put, List.setIfInBounds_toArray, List.set_cons_zero, List.set_cons_succ, i64_w, i32_w]
                             rfl
                            refine done_ (done_of HT_.out (by kernel_rfl)) ?_
                            try go_wp2
                            go_ret
                            exact ⟨by first | rfl | (simp [errW_none, errW_some] <;> rfl) | (simp [*, errW_none, errW_some] <;> rfl), by repeat (first | (with_reducible first | exact HB.out | apply below_alloc | apply pw_below_drewN | apply below_drew1 | refine below_set ?_ GE101.out | refine below_set ?_ GE109.out) | exact HB.out)⟩
                          ·rw [if_neg c53] at H
                           exact absurd H (by simp)
                         ·rw [if_neg c52] at H
                          have c52b0 : decide (x7_8 < (((rd_T38 l0_3 x5_6).f1).length : Int)) = false := decide_eq_false c52
                          clear c52
                          by_cases c64 : (((rd_T38 l0_3 x5_6).f1).length : Int) > 64
                          ·rw [if_pos c64] at H
                           have c64b0 : decide (64 < (((rd_T38 l0_3 x5_6).f1).length : Int)) = true := decide_eq_true c64
                           have c64b1 : decide (64 < ((rd_T38 l0_3 x5_6).f1).length) = true := decide_eq_true (by omega)
                           clear c64
                           obtain rfl := Option.some.inj H
                           have hnb65 := NB109_101.out
                           have hnc65 := NB101_109.out
                           have hcz66_0 : wr.cell? ⟨gb109, 0, none⟩ = some (.int .i64 ((rd_T38 l0_3 x5_6).f0)) := (blk_cell BK109.out 0).trans rfl
                           have hcz66_1 : wr.cell? ⟨gb109, 1, none⟩ = some (.slice A108_1 ((rd_T38 l0_3 x5_6).f1).length c108_1) := (blk_cell BK109.out 1).trans rfl
                           have hfz66_0 := blk_frozen BK109.out 0
                           have hfz66_1 := blk_frozen BK109.out 1
                           go_wp2
                           go_ret
                           exact ⟨by first | rfl | (simp [errW_none, errW_some] <;> rfl) | (simp [*, errW_none, errW_some] <;> rfl), by repeat (first | (with_reducible first | exact HB.out | apply below_alloc | apply pw_below_drewN | apply below_drew1 | refine below_set ?_ GE101.out | refine below_set ?_ GE109.out) | exact HB.out)⟩
                          ·rw [if_neg c64] at H
                           have c64b0 : decide (64 < (((rd_T38 l0_3 x5_6).f1).length : Int)) = false := decide_eq_false c64
                           have c64b1 : decide (64 < ((rd_T38 l0_3 x5_6).f1).length) = false := decide_eq_false (by omega)
                           clear c64
                           have H' := Aside0.mk H
                           clear H
                           have hnb67 := NB109_101.out
                           have hnc67 := NB101_109.out
                           have hcz68_0 : wr.cell? ⟨gb109, 0, none⟩ = some (.int .i64 ((rd_T38 l0_3 x5_6).f0)) := (blk_cell BK109.out 0).trans rfl
                           have hcz68_1 : wr.cell? ⟨gb109, 1, none⟩ = some (.slice A108_1 ((rd_T38 l0_3 x5_6).f1).length c108_1) := (blk_cell BK109.out 1).trans rfl
                           have hfz68_0 := blk_frozen BK109.out 0
                           have hfz68_1 := blk_frozen BK109.out 1
                           go_wp2
                           go_roundg k8
                           case measure => have := HJ1.out; have := HK2.out; have := HK3.out; have := HJ24.out; have := HJ32.out; have := HK6.out; have := HJ39.out; have := HK8.out; omega
                           case rel => exact ⟨(wrap64 (x5_6 + 1)), (by first | rfl | (simp; done) | (simp [*]; done)), H', ⟨by have := HJ1.out; have := HK2.out; have := HK3.out; have := HJ24.out; have := HJ32.out; have := HK6.out; have := HJ39.out; have := HK8.out; omega⟩, ⟨by (with_reducible repeat (first | refine blk_drewN ?_ _ | refine blk_drew ?_ | refine blk_alloc ?_ _)); exact BK101.out⟩, ⟨by repeat (first | (with_reducible first | exact HB.out | apply below_alloc | apply pw_below_drewN | apply below_drew1 | refine below_set ?_ GE101.out | refine below_set ?_ GE109.out) | exact HB.out)⟩⟩
                   ·rw [if_neg c39] at H
                    exact absurd H (by simp)
                  ·rw [if_neg c38] at H
                   have c38b0 : decide (x5_6 < (l0_3.length : Int)) = false := decide_eq_false c38
                   clear c38
                   have H' := Aside0.mk H
                   clear H
                   have hcz69_0 : wr.cell? ⟨gb101, 0, none⟩ = some (.slice A0_0 l0_0.length c0_0) := (blk_cell BK101.out 0).trans rfl
                   have hcz69_1 : wr.cell? ⟨gb101, 1, none⟩ = some (.slice A0_1 l0_1.length c0_1) := (blk_cell BK101.out 1).trans rfl
                   have hcz69_2 : wr.cell? ⟨gb101, 2, none⟩ = some (.int .i64 a0_2) := (blk_cell BK101.out 2).trans rfl
                   have hcz69_3 : wr.cell? ⟨gb101, 3, none⟩ = some (.slice A0_3 l0_3.length c0_3) := (blk_cell BK101.out 3).trans rfl
                   have hfz69_0 := blk_frozen BK101.out 0
                   have hfz69_1 := blk_frozen BK101.out 1
                   have hfz69_2 := blk_frozen BK101.out 2
                   have hfz69_3 := blk_frozen BK101.out 3
                   go_wp2
                   go_loopg [8] k6 (fun kq v8 w' => ∃ (x8_7 : Int), v8 = .int .i64 x8_7 ∧ Aside0 (wickerref02_Check.l4 kq x8_7 l0_0 l0_1 a0_2 l0_3 = some r) ∧ Aside0 (kq ≤ k6) ∧ Aside0 (w'.heap[gb101]? = some (.cells #[(.slice A0_0 l0_0.length c0_0), (.slice A0_1 l0_1.length c0_1), .int .i64 a0_2, (.slice A0_3 l0_3.length c0_3)] 30 (0, 0))) ∧ Aside0 (Below w.heap.size w w'))
                   case atStart => exact ⟨(0), (by first | rfl | (simp; done) | (simp [*]; done)), H', ⟨Nat.le_refl _⟩, ⟨by (with_reducible repeat (first | refine blk_drewN ?_ _ | refine blk_drew ?_ | refine blk_alloc ?_ _)); exact BK101.out⟩, ⟨by repeat (first | (with_reducible first | exact HB.out | apply below_alloc | apply pw_below_drewN | apply below_drew1 | refine below_set ?_ GE101.out) | exact HB.out)⟩⟩
                   case round =>
                    clear H'
                    try clear c1
                    try clear p1
                    try clear q1
                    try clear hx1
                    try clear c2
                    try clear p2
                    try clear c3
                    try clear c4
                    try clear c4b0
                    try clear c4b1
                    try clear c5
                    try clear c6
                    try clear c6b0
                    try clear c6b1
                    try clear p6
                    try clear c8
                    try clear c8b0
                    try clear c8b1
                    try clear c10
                    try clear p10
                    try clear q10
                    try clear hx10
                    try clear c11
                    try clear p11
                    try clear q11
                    try clear hx11
                    try clear c12
                    try clear c12b0
                    try clear c13
                    try clear c13b0
                    try clear c15
                    try clear c19
                    try clear c19b0
                    try clear c20
                    try clear c20b0
                    try clear c22
                    try clear c28
                    try clear c32
                    try clear c34
                    try clear c34b0
                    try clear c37
                    try clear c38
                    try clear c38b0
                    try clear c39
                    try clear c39b0
                    try clear c43
                    try clear c45
                    try clear c45b0
                    try clear c46
                    try clear c48
                    try clear c51
                    try clear c52
                    try clear c52b0
                    try clear c53
                    try clear c53b0
                    try clear c55
                    try clear c56
                    try clear c60
                    try clear c64
                    try clear c64b0
                    try clear c64b1
                    try clear p64
                    try clear c65
                    try clear c67
                    try clear hcz10_0
                    try clear hcz10_1
                    try clear hcz10_2
                    try clear hcz10_3
                    try clear hcz16_0
                    try clear hcz16_1
                    try clear hcz16_2
                    try clear hcz16_3
                    try clear hcz17_0
                    try clear hcz17_1
                    try clear hcz17_2
                    try clear hcz17_3
                    try clear hcz18_0
                    try clear hcz18_1
                    try clear hcz18_2
                    try clear hcz18_3
                    try clear hcz23_0
                    try clear hcz23_1
                    try clear hcz23_2
                    try clear hcz23_3
                    try clear hcz24_0
                    try clear hcz24_1
                    try clear hcz24_2
                    try clear hcz24_3
                    try clear hcz26_0
                    try clear hcz26_1
                    try clear hcz26_2
                    try clear hcz26_3
                    try clear hcz29_0
                    try clear hcz29_1
                    try clear hcz29_2
                    try clear hcz29_3
                    try clear hcz31_0
                    try clear hcz31_1
                    try clear hcz31_2
                    try clear hcz31_3
                    try clear hcz35_0
                    try clear hcz35_1
                    try clear hcz35_2
                    try clear hcz35_3
                    try clear hcz36_0
                    try clear hcz36_1
                    try clear hcz36_2
                    try clear hcz36_3
                    try clear hcz41_0
                    try clear hcz41_1
                    try clear hcz41_2
                    try clear hcz41_3
                    try clear hcz44_0
                    try clear hcz44_1
                    try clear hcz47_0
                    try clear hcz47_1
                    try clear hcz49_0
                    try clear hcz49_1
                    try clear hcz50_0
                    try clear hcz50_1
                    try clear hcz50_2
                    try clear hcz50_3
                    try clear hcz57_0
                    try clear hcz57_1
                    try clear hcz5_0
                    try clear hcz5_1
                    try clear hcz5_2
                    try clear hcz5_3
                    try clear hcz61_0
                    try clear hcz61_1
                    try clear hcz66_0
                    try clear hcz66_1
                    try clear hcz68_0
                    try clear hcz68_1
                    try clear hcz69_0
                    try clear hcz69_1
                    try clear hcz69_2
                    try clear hcz69_3
                    try clear hcz7_0
                    try clear hcz7_1
                    try clear hcz7_2
                    try clear hcz7_3
                    try clear hcz9_0
                    try clear hcz9_1
                    try clear hcz9_2
                    try clear hcz9_3
                    try clear hfz10_0
                    try clear hfz10_1
                    try clear hfz10_2
                    try clear hfz10_3
                    try clear hfz16_0
                    try clear hfz16_1
                    try clear hfz16_2
                    try clear hfz16_3
                    try clear hfz17_0
                    try clear hfz17_1
                    try clear hfz17_2
                    try clear hfz17_3
                    try clear hfz18_0
                    try clear hfz18_1
                    try clear hfz18_2
                    try clear hfz18_3
                    try clear hfz23_0
                    try clear hfz23_1
                    try clear hfz23_2
                    try clear hfz23_3
                    try clear hfz24_0
                    try clear hfz24_1
                    try clear hfz24_2
                    try clear hfz24_3
                    try clear hfz26_0
                    try clear hfz26_1
                    try clear hfz26_2
                    try clear hfz26_3
                    try clear hfz29_0
                    try clear hfz29_1
                    try clear hfz29_2
                    try clear hfz29_3
                    try clear hfz31_0
                    try clear hfz31_1
                    try clear hfz31_2
                    try clear hfz31_3
                    try clear hfz35_0
                    try clear hfz35_1
                    try clear hfz35_2
                    try clear hfz35_3
                    try clear hfz36_0
                    try clear hfz36_1
                    try clear hfz36_2
                    try clear hfz36_3
                    try clear hfz41_0
                    try clear hfz41_1
                    try clear hfz41_2
                    try clear hfz41_3
                    try clear hfz44_0
                    try clear hfz44_1
                    try clear hfz47_0
                    try clear hfz47_1
                    try clear hfz49_0
                    try clear hfz49_1
                    try clear hfz50_0
                    try clear hfz50_1
                    try clear hfz50_2
                    try clear hfz50_3
                    try clear hfz57_0
                    try clear hfz57_1
                    try clear hfz5_0
                    try clear hfz5_1
                    try clear hfz5_2
                    try clear hfz5_3
                    try clear hfz61_0
                    try clear hfz61_1
                    try clear hfz66_0
                    try clear hfz66_1
                    try clear hfz68_0
                    try clear hfz68_1
                    try clear hfz69_0
                    try clear hfz69_1
                    try clear hfz69_2
                    try clear hfz69_3
                    try clear hfz7_0
                    try clear hfz7_1
                    try clear hfz7_2
                    try clear hfz7_3
                    try clear hfz9_0
                    try clear hfz9_1
                    try clear hfz9_2
                    try clear hfz9_3
                    try clear hx102_0
                    try clear hx104_0
                    try clear hx108_0
                    try clear hx108_1
                    try clear hx110_0
                    try clear p1
                    try clear p10
                    try clear p102
                    try clear p104
                    try clear p108
                    try clear p110
                    try clear p2
                    try clear p6
                    try clear q1
                    try clear q10
                    try clear q102
                    try clear q104
                    try clear q108
                    try clear q110
                    obtain ⟨x8_7, rfl, HA, HK7, BK101, HB⟩ := hrel
                    cases gk with
                    | zero => exact absurd HA.out (by simp [wickerref02_Check.l4])
                    | succ k7 =>
                     have H := HA.out
                     clear HA
                     simp only [wickerref02_Check.l4] at H
                     by_cases c70 : x8_7 < (l0_3.length : Int)
                     ·rw [if_pos c70] at H
                      have c70b0 : decide (x8_7 < (l0_3.length : Int)) = true := decide_eq_true c70
                      clear c70
                      by_cases c71 : 0 ≤ x8_7
                      ·rw [if_pos c71] at H
                       have c71b0 : decide (0 ≤ x8_7) = true := decide_eq_true c71
                       clear c71
                       replace H := Option.bind_eq_some_iff.mp H
                       obtain ⟨t113, A720, H⟩ := H
                       replace H : (if t113 < x8_7 then (some 2) else (wickerref02_Check.l4 k7 (wrap64 (x8_7 + 1)) l0_0 l0_1 a0_2 l0_3)) = some r := H
                       have A72 := Aside0.mk A720
                       clear A720
                       by_cases c73 : t113 < x8_7
                       ·rw [if_pos c73] at H
                        have c73b0 : decide (t113 < x8_7) = true := decide_eq_true c73
                        clear c73
                        obtain rfl := Option.some.inj H
                        have hcz74_0 : wr.cell? ⟨gb101, 0, none⟩ = some (.slice A0_0 l0_0.length c0_0) := (blk_cell BK101.out 0).trans rfl
                        have hcz74_1 : wr.cell? ⟨gb101, 1, none⟩ = some (.slice A0_1 l0_1.length c0_1) := (blk_cell BK101.out 1).trans rfl
                        have hcz74_2 : wr.cell? ⟨gb101, 2, none⟩ = some (.int .i64 a0_2) := (blk_cell BK101.out 2).trans rfl
                        have hcz74_3 : wr.cell? ⟨gb101, 3, none⟩ = some (.slice A0_3 l0_3.length c0_3) := (blk_cell BK101.out 3).trans rfl
                        have hfz74_0 := blk_frozen BK101.out 0
                        have hfz74_1 := blk_frozen BK101.out 1
                        have hfz74_2 := blk_frozen BK101.out 2
                        have hfz74_3 := blk_frozen BK101.out 3
                        try go_wp2
                        have n0_ := Aside0.mk (blk_drew BK101.out)
                        have n1_ := Aside0.mk (below_drew1 HB.out)
                        clear BK101
                        clear HB
                        have BK101 := n0_
                        have HB := n1_
                        clear n0_ n1_
                        have p112 : 0 ≤ (x8_7 : Int) := of_decide_eq_true (by first | (with_reducible assumption) | assumption)
                        have q112 : x8_7 < (l0_3.length : Int) := of_decide_eq_true (by first | (with_reducible assumption) | assumption)
                        obtain ⟨ad112, A112_1, c112_1, e112, hx112_0, hx112_1, hl112_1, hi112_1⟩ := at_T38 HR0_3.out x8_7 p112 q112
                        have hw112_1 := hx112_1
                        have hw112_0 := hx112_0
                        cases e112
                        replace hx112_0 := (HB.out.cell (World.block_lt_of_cell? w _ hx112_0)).trans hx112_0
                        replace hx112_1 := (HB.out.cell (World.block_lt_of_cell? w _ hx112_1)).trans hx112_1
                        have HR112_1 := Aside0.mk hi112_1
                        have HC112_1 := Aside0.mk hl112_1
                        clear hi112_1 hl112_1
                        replace p112 := eq_true p112
                        replace q112 := eq_true q112
                        refine start_ (n := 10) (S := fun w' => w'.cell? ⟨gb101, 0, none⟩ = some (.slice A0_0 l0_0.length c0_0) ∧ w'.cell? ⟨gb101, 1, none⟩ = some (.slice A0_1 l0_1.length c0_1) ∧ w'.cell? ⟨gb101, 2, none⟩ = some (.int .i64 a0_2) ∧ w'.cell? ⟨gb101, 3, none⟩ = some (.slice (some ad112) l0_3.length c0_3) ∧ w'.cell? (ad112.add ((x8_7).toNat * 2)) = some (.int .i64 ((rd_T38 l0_3 x8_7).f0)) ∧ w'.cell? ⟨(ad112.add ((x8_7).toNat * 2)).block, (ad112.add ((x8_7).toNat * 2)).off + 1, none⟩ = some (.slice A112_1 ((rd_T38 l0_3 x8_7).f1).length c112_1)) (ds := []) #[false, false, false, false, false, false, false, false, false, false] (by kernel_rfl) rfl rfl ⟨(blk_cell BK101.out 0).trans rfl, (blk_cell BK101.out 1).trans rfl, (blk_cell BK101.out 2).trans rfl, (blk_cell BK101.out 3).trans rfl, ((HB.out.cell (World.block_lt_of_cell? w _ hw112_0)).trans hw112_0), ((HB.out.cell (World.block_lt_of_cell? w _ hw112_1)).trans hw112_1)⟩ (fun hHeld => ?_); refine with_tabW wickerref02_Check.tab33 wickerref02_Check.bits33 (fun HT_ HW_ => ?_)
                        generalize wr.drew = w75 at BK101 HB HR112_1 hx112_0 hx112_1 hHeld ⊢
                        refine pure_ (i := 0) (N := some 127) (v := ?_) (a' := ?_) #[true, false, false, false, false, false, false, false, false, false] rfl rfl (any_of HT_.out (by kernel_rfl)) (fun _ _ _ h => h) (Or.inl ⟨by rfl, ?_⟩) ?_ ?_
                        rotate_left
                        ·intro w'
                         go_simp
                         with_reducible rfl
                        rotate_left
                        ·simp only [Act.put, List.setIfInBounds_toArray, List.set_cons_zero, List.set_cons_succ, i64_w, i32_w]
                         rfl
                        refine pure_ (i := 2) (N := some 129) (v := ?_) (a' := ?_) #[true, false, true, false, false, false, false, false, false, false] rfl rfl (any_of HT_.out (by kernel_rfl)) (fun _ _ _ h => h) (Or.inl ⟨by rfl, ?_⟩) ?_ ?_
                        rotate_left
                        ·intro w'
                         go_simp
                         with_reducible rfl
                        rotate_left
                        ·simp only [Act.put, List.setIfInBounds_toArray, List.set_cons_zero, List.set_cons_succ, i64_w, i32_w]
                         rfl
                        refine pure_ (i := 4) (N := some 131) (v := ?_) (a' := ?_) #[true, false, true, false, true, false, false, false, false, false] rfl rfl (any_of HT_.out (by kernel_rfl)) (fun _ _ _ h => h) (Or.inl ⟨by rfl, ?_⟩) ?_ ?_
                        rotate_left
                        ·intro w'
                         go_simp
                         with_reducible rfl
                        rotate_left
                        ·simp only [Act.put, List.setIfInBounds_toArray, List.set_cons_zero, List.set_cons_succ, i64_w, i32_w]
                         rfl
                        refine pure_ (i := 8) (N := some 135) (v := ?_) (a' := ?_) #[true, false, true, false, true, false, false, false, true, false] rfl rfl (any_of HT_.out (by kernel_rfl)) (fun _ _ _ h => h) (Or.inl ⟨by rfl, ?_⟩) ?_ ?_
                        rotate_left
                        ·intro w'
                         go_simp
                         with_reducible rfl
                        rotate_left
                        ·simp only [Act.put, List.setIfInBounds_toArray, List.set_cons_zero, List.set_cons_succ, i64_w, i32_w]
                         rfl
                        refine take_ (i := 1) (N := some 128) (v := ?_) (a' := ?_) #[true, true, true, false, true, false, false, false, true, false] rfl rfl (take_ofW HT_.out HW_.out (by kernel_rfl)) (fun _ _ _ h => h) (Or.inl ⟨by rfl, ?_⟩) hHeld ?_ ?_
                        rotate_left
                        ·rintro w' ⟨s0, s1, s2, s3, s4, s5⟩
                         go_simp
                         with_reducible rfl
                        rotate_left
                        ·simp only [Act.put, List.setIfInBounds_toArray, List.set_cons_zero, List.set_cons_succ, i64_w, i32_w]
                         rfl
                        refine take_ (i := 3) (N := some 130) (v := ?_) (a' := ?_) #[true, true, true, true, true, false, false, false, true, false] rfl rfl (take_ofW HT_.out HW_.out (by kernel_rfl)) (fun _ _ _ h => h) (Or.inl ⟨by rfl, ?_⟩) hHeld ?_ ?_
                        rotate_left
                        ·rintro w' ⟨s0, s1, s2, s3, s4, s5⟩
                         go_simp
                         with_reducible rfl
                        rotate_left
                        ·simp only [Act.put, List.setIfInBounds_toArray, List.set_cons_zero, List.set_cons_succ, i64_w, i32_w]
                         rfl
                        refine pure_ (i := 5) (N := some 132) (v := ?_) (a' := ?_) #[true, true, true, true, true, true, false, false, true, false] rfl rfl (any_of HT_.out (by kernel_rfl)) (fun _ _ _ h => h) (Or.inl ⟨by rfl, ?_⟩) ?_ ?_
                        rotate_left
                        ·intro w'
                         go_simp
                         with_reducible rfl
                        rotate_left
                        ·simp only [Act.put, List.setIfInBounds_toArray, List.set_cons_zero, List.set_cons_succ, i64_w, i32_w]
                         rfl
                        refine take_ (i := 6) (N := some 133) (v := ?_) (a' := ?_) #[true, true, true, true, true, true, true, false, true, false] rfl rfl (take_ofW HT_.out HW_.out (by kernel_rfl)) (fun _ _ _ h => h) (Or.inl ⟨by rfl, ?_⟩) hHeld ?_ ?_
                        rotate_left
                        ·rintro w' ⟨s0, s1, s2, s3, s4, s5⟩
                         go_simp
                         with_reducible rfl
                        rotate_left
                        ·simp only [Act.put, List.setIfInBounds_toArray, List.set_cons_zero, List.set_cons_succ, i64_w, i32_w]
                         rfl
                        refine one_ (i := 7) (N := some 134) #[true, true, true, true, true, true, true, true, true, false] rfl rfl (one_of HT_.out (by kernel_rfl)) (by decide) (fun K hK => ?_)
                        refine goes_ Tryd.func22 (by kernel_rfl) rfl #[.slice (some ad112) l0_3.length c0_3, .agg #[.int .i64 ((rd_T38 l0_3 x8_7).f0), .slice A112_1 ((rd_T38 l0_3 x8_7).f1).length c112_1]] (by rfl) rfl rfl (by (try simp only [List.map_toArray, List.map_cons, List.map_nil]); first | done | rfl | (simp only [List.length_drop, List.length_take]; rfl)) ?_
                        with_reducible refine (wickerref02_Find.calls k7 _ _ l0_3 ((rd_T38 l0_3 x8_7).f0) _ _ ((rd_T38 l0_3 x8_7).f1) t113 _ ?side1 ?side2 ?side3 ?side4 A72.out).mono ?_
                        (case side1 => repeat (first | exact (Kd.C_below HR0_3.out HB.out) | (with_reducible refine Kd.C_alloc ?_ _) | (with_reducible refine Kd.C_drewN ?_ _) | (with_reducible refine Kd.C_drew ?_)))
                        (case side2 => exact HC0_3.out)
                        (case side3 => repeat (first | exact (Kd.C_below HR112_1.out HB.out) | (with_reducible refine Kd.C_alloc ?_ _) | (with_reducible refine Kd.C_drewN ?_ _) | (with_reducible refine Kd.C_drew ?_)))
                        (case side4 => exact HC112_1.out)
                        rintro e w76 ⟨rfl, hb⟩
                        refine ⟨_, rfl, ?_⟩
                        have n0_ := Aside0.mk (blk_below (g := gb101) (o := .cells #[.slice A0_0 l0_0.length c0_0, .slice A0_1 l0_1.length c0_1, .int .i64 a0_2, .slice (some ad112) l0_3.length c0_3] 30 (0, 0)) (by (with_reducible repeat (first | refine blk_drewN ?_ _ | refine blk_drew ?_ | refine blk_alloc ?_ _)); exact BK101.out) hb)
                        have n1_ := Aside0.mk (below_step (by repeat (first | (with_reducible first | exact HB.out | apply below_alloc | apply pw_below_drewN | apply below_drew1 | refine below_set ?_ GE101.out) | exact HB.out)) hb)
                        clear BK101
                        clear HB
                        have BK101 := n0_
                        have HB := n1_
                        clear n0_ n1_
                        (try clear hb)
                        (try clear hb2)
                        (try clear hk)
                        (try clear hi)
                        refine hK.out _ _ ⟨(blk_cell BK101.out 0).trans rfl, (blk_cell BK101.out 1).trans rfl, (blk_cell BK101.out 2).trans rfl, (blk_cell BK101.out 3).trans rfl, ((HB.out.cell (World.block_lt_of_cell? w _ hw112_0)).trans hw112_0), ((HB.out.cell (World.block_lt_of_cell? w _ hw112_1)).trans hw112_1)⟩ (fun hHeld => ?_)
                        clear hK K
                        refine norm_ (a' := ?_) ?_ ?_
                        rotate_left
                        ·show Act.put _ (some 134) _ = _
                         simp only [Act.put, List.setIfInBounds_toArray, List.set_cons_zero, List.set_cons_succ, i64_w, i32_w]
                         rfl
                        refine pure_ (i := 9) (N := some 136) (v := ?_) (a' := ?_) #[true, true, true, true, true, true, true, true, true, true] rfl rfl (any_of HT_.out (by kernel_rfl)) (fun _ _ _ h => h) (Or.inl ⟨by rfl, ?_⟩) ?_ ?_
                        rotate_left
                        ·intro w'
                         go_simp
                         with_reducible rfl
                        rotate_left
                        ·simp only [Act.put, List.setIfInBounds_toArray, List.set_cons_zero, List.set_cons_succ, i64_w, i32_w]
                         rfl
                        refine done_ (done_of HT_.out (by kernel_rfl)) ?_
                        try go_wp2
                        go_ret
                        exact ⟨by first | rfl | (simp [errW_none, errW_some] <;> rfl) | (simp [*, errW_none, errW_some] <;> rfl), by repeat (first | (with_reducible first | exact HB.out | apply below_alloc | apply pw_below_drewN | apply below_drew1 | refine below_set ?_ GE101.out) | exact HB.out)⟩
                       ·rw [if_neg c73] at H
                        have c73b0 : decide (t113 < x8_7) = false := decide_eq_false c73
                        clear c73
                        have H' := Aside0.mk H
                        clear H
                        have hcz77_0 : wr.cell? ⟨gb101, 0, none⟩ = some (.slice A0_0 l0_0.length c0_0) := (blk_cell BK101.out 0).trans rfl
                        have hcz77_1 : wr.cell? ⟨gb101, 1, none⟩ = some (.slice A0_1 l0_1.length c0_1) := (blk_cell BK101.out 1).trans rfl
                        have hcz77_2 : wr.cell? ⟨gb101, 2, none⟩ = some (.int .i64 a0_2) := (blk_cell BK101.out 2).trans rfl
                        have hcz77_3 : wr.cell? ⟨gb101, 3, none⟩ = some (.slice A0_3 l0_3.length c0_3) := (blk_cell BK101.out 3).trans rfl
                        have hfz77_0 := blk_frozen BK101.out 0
                        have hfz77_1 := blk_frozen BK101.out 1
                        have hfz77_2 := blk_frozen BK101.out 2
                        have hfz77_3 := blk_frozen BK101.out 3
                        try go_wp2
                        have n0_ := Aside0.mk (blk_drew BK101.out)
                        have n1_ := Aside0.mk (below_drew1 HB.out)
                        clear BK101
                        clear HB
                        have BK101 := n0_
                        have HB := n1_
                        clear n0_ n1_
                        have p112 : 0 ≤ (x8_7 : Int) := of_decide_eq_true (by first | (with_reducible assumption) | assumption)
                        have q112 : x8_7 < (l0_3.length : Int) := of_decide_eq_true (by first | (with_reducible assumption) | assumption)
                        obtain ⟨ad112, A112_1, c112_1, e112, hx112_0, hx112_1, hl112_1, hi112_1⟩ := at_T38 HR0_3.out x8_7 p112 q112
                        have hw112_1 := hx112_1
                        have hw112_0 := hx112_0
                        cases e112
                        replace hx112_0 := (HB.out.cell (World.block_lt_of_cell? w _ hx112_0)).trans hx112_0
                        replace hx112_1 := (HB.out.cell (World.block_lt_of_cell? w _ hx112_1)).trans hx112_1
                        have HR112_1 := Aside0.mk hi112_1
                        have HC112_1 := Aside0.mk hl112_1
                        clear hi112_1 hl112_1
                        replace p112 := eq_true p112
                        replace q112 := eq_true q112
                        refine start_ (n := 10) (S := fun w' => w'.cell? ⟨gb101, 0, none⟩ = some (.slice A0_0 l0_0.length c0_0) ∧ w'.cell? ⟨gb101, 1, none⟩ = some (.slice A0_1 l0_1.length c0_1) ∧ w'.cell? ⟨gb101, 2, none⟩ = some (.int .i64 a0_2) ∧ w'.cell? ⟨gb101, 3, none⟩ = some (.slice (some ad112) l0_3.length c0_3) ∧ w'.cell? (ad112.add ((x8_7).toNat * 2)) = some (.int .i64 ((rd_T38 l0_3 x8_7).f0)) ∧ w'.cell? ⟨(ad112.add ((x8_7).toNat * 2)).block, (ad112.add ((x8_7).toNat * 2)).off + 1, none⟩ = some (.slice A112_1 ((rd_T38 l0_3 x8_7).f1).length c112_1)) (ds := []) #[false, false, false, false, false, false, false, false, false, false] (by kernel_rfl) rfl rfl ⟨(blk_cell BK101.out 0).trans rfl, (blk_cell BK101.out 1).trans rfl, (blk_cell BK101.out 2).trans rfl, (blk_cell BK101.out 3).trans rfl, ((HB.out.cell (World.block_lt_of_cell? w _ hw112_0)).trans hw112_0), ((HB.out.cell (World.block_lt_of_cell? w _ hw112_1)).trans hw112_1)⟩ (fun hHeld => ?_); refine with_tabW wickerref02_Check.tab33 wickerref02_Check.bits33 (fun HT_ HW_ => ?_)
                        generalize wr.drew = w78 at BK101 HB HR112_1 hx112_0 hx112_1 hHeld ⊢
                        refine pure_ (i := 0) (N := some 127) (v := ?_) (a' := ?_) #[true, false, false, false, false, false, false, false, false, false] rfl rfl (any_of HT_.out (by kernel_rfl)) (fun _ _ _ h => h) (Or.inl ⟨by rfl, ?_⟩) ?_ ?_
                        rotate_left
                        ·intro w'
                         go_simp
                         with_reducible rfl
                        rotate_left
                        ·simp only [Act.put, List.setIfInBounds_toArray, List.set_cons_zero, List.set_cons_succ, i64_w, i32_w]
                         rfl
                        refine pure_ (i := 2) (N := some 129) (v := ?_) (a' := ?_) #[true, false, true, false, false, false, false, false, false, false] rfl rfl (any_of HT_.out (by kernel_rfl)) (fun _ _ _ h => h) (Or.inl ⟨by rfl, ?_⟩) ?_ ?_
                        rotate_left
                        ·intro w'
                         go_simp
                         with_reducible rfl
                        rotate_left
                        ·simp only [Act.put, List.setIfInBounds_toArray, List.set_cons_zero, List.set_cons_succ, i64_w, i32_w]
                         rfl
                        refine pure_ (i := 4) (N := some 131) (v := ?_) (a' := ?_) #[true, false, true, false, true, false, false, false, false, false] rfl rfl (any_of HT_.out (by kernel_rfl)) (fun _ _ _ h => h) (Or.inl ⟨by rfl, ?_⟩) ?_ ?_
                        rotate_left
                        ·intro w'
                         go_simp
                         with_reducible rfl
                        rotate_left
                        ·simp only [Act.put, List.setIfInBounds_toArray, List.set_cons_zero, List.set_cons_succ, i64_w, i32_w]
                         rfl
                        refine pure_ (i := 8) (N := some 135) (v := ?_) (a' := ?_) #[true, false, true, false, true, false, false, false, true, false] rfl rfl (any_of HT_.out (by kernel_rfl)) (fun _ _ _ h => h) (Or.inl ⟨by rfl, ?_⟩) ?_ ?_
                        rotate_left
                        ·intro w'
                         go_simp
                         with_reducible rfl
                        rotate_left
                        ·simp only [Act.put, List.setIfInBounds_toArray, List.set_cons_zero, List.set_cons_succ, i64_w, i32_w]
                         rfl
                        refine take_ (i := 1) (N := some 128) (v := ?_) (a' := ?_) #[true, true, true, false, true, false, false, false, true, false] rfl rfl (take_ofW HT_.out HW_.out (by kernel_rfl)) (fun _ _ _ h => h) (Or.inl ⟨by rfl, ?_⟩) hHeld ?_ ?_
                        rotate_left
                        ·rintro w' ⟨s0, s1, s2, s3, s4, s5⟩
                         go_simp
                         with_reducible rfl
                        rotate_left
                        ·simp only [Act.put, List.setIfInBounds_toArray, List.set_cons_zero, List.set_cons_succ, i64_w, i32_w]
                         rfl
                        refine take_ (i := 3) (N := some 130) (v := ?_) (a' := ?_) #[true, true, true, true, true, false, false, false, true, false] rfl rfl (take_ofW HT_.out HW_.out (by kernel_rfl)) (fun _ _ _ h => h) (Or.inl ⟨by rfl, ?_⟩) hHeld ?_ ?_
                        rotate_left
                        ·rintro w' ⟨s0, s1, s2, s3, s4, s5⟩
                         go_simp
                         with_reducible rfl
                        rotate_left
                        ·simp only [Act.put, List.setIfInBounds_toArray, List.set_cons_zero, List.set_cons_succ, i64_w, i32_w]
                         rfl
                        refine pure_ (i := 5) (N := some 132) (v := ?_) (a' := ?_) #[true, true, true, true, true, true, false, false, true, false] rfl rfl (any_of HT_.out (by kernel_rfl)) (fun _ _ _ h => h) (Or.inl ⟨by rfl, ?_⟩) ?_ ?_
                        rotate_left
                        ·intro w'
                         go_simp
                         with_reducible rfl
                        rotate_left
                        ·simp only [Act.put, List.setIfInBounds_toArray, List.set_cons_zero, List.set_cons_succ, i64_w, i32_w]
                         rfl
                        refine take_ (i := 6) (N := some 133) (v := ?_) (a' := ?_) #[true, true, true, true, true, true, true, false, true, false] rfl rfl (take_ofW HT_.out HW_.out (by kernel_rfl)) (fun _ _ _ h => h) (Or.inl ⟨by rfl, ?_⟩) hHeld ?_ ?_
                        rotate_left
                        ·rintro w' ⟨s0, s1, s2, s3, s4, s5⟩
                         go_simp
                         with_reducible rfl
                        rotate_left
                        ·simp only [Act.put, List.setIfInBounds_toArray, List.set_cons_zero, List.set_cons_succ, i64_w, i32_w]
                         rfl
                        refine one_ (i := 7) (N := some 134) #[true, true, true, true, true, true, true, true, true, false] rfl rfl (one_of HT_.out (by kernel_rfl)) (by decide) (fun K hK => ?_)
                        refine goes_ Tryd.func22 (by kernel_rfl) rfl #[.slice (some ad112) l0_3.length c0_3, .agg #[.int .i64 ((rd_T38 l0_3 x8_7).f0), .slice A112_1 ((rd_T38 l0_3 x8_7).f1).length c112_1]] (by rfl) rfl rfl (by (try simp only [List.map_toArray, List.map_cons, List.map_nil]); first | done | rfl | (simp only [List.length_drop, List.length_take]; rfl)) ?_
                        with_reducible refine (wickerref02_Find.calls k7 _ _ l0_3 ((rd_T38 l0_3 x8_7).f0) _ _ ((rd_T38 l0_3 x8_7).f1) t113 _ ?side1 ?side2 ?side3 ?side4 A72.out).mono ?_
                        (case side1 => repeat (first | exact (Kd.C_below HR0_3.out HB.out) | (with_reducible refine Kd.C_alloc ?_ _) | (with_reducible refine Kd.C_drewN ?_ _) | (with_reducible refine Kd.C_drew ?_)))
                        (case side2 => exact HC0_3.out)
                        (case side3 => repeat (first | exact (Kd.C_below HR112_1.out HB.out) | (with_reducible refine Kd.C_alloc ?_ _) | (with_reducible refine Kd.C_drewN ?_ _) | (with_reducible refine Kd.C_drew ?_)))
                        (case side4 => exact HC112_1.out)
                        rintro e w79 ⟨rfl, hb⟩
                        refine ⟨_, rfl, ?_⟩
                        have n0_ := Aside0.mk (blk_below (g := gb101) (o := .cells #[.slice A0_0 l0_0.length c0_0, .slice A0_1 l0_1.length c0_1, .int .i64 a0_2, .slice (some ad112) l0_3.length c0_3] 30 (0, 0)) (by (with_reducible repeat (first | refine blk_drewN ?_ _ | refine blk_drew ?_ | refine blk_alloc ?_ _)); exact BK101.out) hb)
                        have n1_ := Aside0.mk (below_step (by repeat (first | (with_reducible first | exact HB.out | apply below_alloc | apply pw_below_drewN | apply below_drew1 | refine below_set ?_ GE101.out) | exact HB.out)) hb)
                        clear BK101
                        clear HB
                        have BK101 := n0_
                        have HB := n1_
                        clear n0_ n1_
                        (try clear hb)
                        (try clear hb2)
                        (try clear hk)
                        (try clear hi)
                        refine hK.out _ _ ⟨(blk_cell BK101.out 0).trans rfl, (blk_cell BK101.out 1).trans rfl, (blk_cell BK101.out 2).trans rfl, (blk_cell BK101.out 3).trans rfl, ((HB.out.cell (World.block_lt_of_cell? w _ hw112_0)).trans hw112_0), ((HB.out.cell (World.block_lt_of_cell? w _ hw112_1)).trans hw112_1)⟩ (fun hHeld => ?_)
                        clear hK K
                        refine norm_ (a' := ?_) ?_ ?_
                        rotate_left
                        ·show Act.put _ (some 134) _ = _
                         simp only [Act.put, List.setIfInBounds_toArray, List.set_cons_zero, List.set_cons_succ, i64_w, i32_w]
                         rfl
                        refine pure_ (i := 9) (N := some 136) (v := ?_) (a' := ?_) #[true, true, true, true, true, true, true, true, true, true] rfl rfl (any_of HT_.out (by kernel_rfl)) (fun _ _ _ h => h) (Or.inl ⟨by rfl, ?_⟩) ?_ ?_
                        rotate_left
                        ·intro w'
                         go_simp
                         with_reducible rfl
                        rotate_left
                        ·simp only [Act.put, List.setIfInBounds_toArray, List.set_cons_zero, List.set_cons_succ, i64_w, i32_w]
                         rfl
                        refine done_ (done_of HT_.out (by kernel_rfl)) ?_
                        try go_wp2
                        go_roundg k7
                        case measure => have := HJ1.out; have := HK2.out; have := HK3.out; have := HJ24.out; have := HJ32.out; have := HK6.out; have := HK7.out; omega
                        case rel => exact ⟨(wrap64 (x8_7 + 1)), (by first | rfl | (simp; done) | (simp [*]; done)), H', ⟨by have := HJ1.out; have := HK2.out; have := HK3.out; have := HJ24.out; have := HJ32.out; have := HK6.out; have := HK7.out; omega⟩, ⟨by (with_reducible repeat (first | refine blk_drewN ?_ _ | refine blk_drew ?_ | refine blk_alloc ?_ _)); exact BK101.out⟩, ⟨by repeat (first | (with_reducible first | exact HB.out | apply below_alloc | apply pw_below_drewN | apply below_drew1 | refine below_set ?_ GE101.out) | exact HB.out)⟩⟩
                      ·rw [if_neg c71] at H
                       exact absurd H (by simp)
                     ·rw [if_neg c70] at H
                      have c70b0 : decide (x8_7 < (l0_3.length : Int)) = false := decide_eq_false c70
                      clear c70
                      obtain rfl := Option.some.inj H
                      have hcz80_0 : wr.cell? ⟨gb101, 0, none⟩ = some (.slice A0_0 l0_0.length c0_0) := (blk_cell BK101.out 0).trans rfl
                      have hcz80_1 : wr.cell? ⟨gb101, 1, none⟩ = some (.slice A0_1 l0_1.length c0_1) := (blk_cell BK101.out 1).trans rfl
                      have hcz80_2 : wr.cell? ⟨gb101, 2, none⟩ = some (.int .i64 a0_2) := (blk_cell BK101.out 2).trans rfl
                      have hcz80_3 : wr.cell? ⟨gb101, 3, none⟩ = some (.slice A0_3 l0_3.length c0_3) := (blk_cell BK101.out 3).trans rfl
                      have hfz80_0 := blk_frozen BK101.out 0
                      have hfz80_1 := blk_frozen BK101.out 1
                      have hfz80_2 := blk_frozen BK101.out 2
                      have hfz80_3 := blk_frozen BK101.out 3
                      go_wp2
                      go_ret
                      exact ⟨by first | rfl | (simp [errW_none, errW_some] <;> rfl) | (simp [*, errW_none, errW_some] <;> rfl), by repeat (first | (with_reducible first | exact HB.out | apply below_alloc | apply pw_below_drewN | apply below_drew1 | refine below_set ?_ GE101.out) | exact HB.out)⟩
end Go.Proofs.YtgdcnmpcfoomiaaDoor.G
end
section
set_option linter.unusedVariables false
set_option linter.unusedSimpArgs false
namespace Go.Proofs.YtgdcnmpcfoomiaaDoor.G
open Go Go.RowKit Go.Proofs.YtgdcnmpcfoomiaaDoorW.PrintWords Go.Proofs.YtgdcnmpcfoomiaaDoor.Pure
theorem rdS (l : List GRule) (i : Nat) (h : i < l.length) : rd_T38 (l.map ofR) (i : Int) = ofR l[i] := by
  rw [rd_T38, Int.toNat_natCast, List.getD_eq_getElem?_getD, List.getElem?_eq_getElem (by rw [List.length_map]; exact h)]
  simp
theorem rdB (l : List ByteArray) (i : Nat) (h : i < l.length) : rdOf ByteArray.empty l (i : Int) = l[i] := by
  rw [rdOf, Int.toNat_natCast, List.getD_eq_getElem?_getD, List.getElem?_eq_getElem h]; rfl
theorem succ64 {i : Nat} (h : i ≤ 1000000000) : wrap64 ((i : Int) + 1) = ((i + 1 : Nat) : Int) := by rw [w64 (by omega) (by omega)]; rfl
theorem nodup_take {α : Type} (l : List α) (i : Nat) (h : i < l.length) : (l.take (i + 1)).Nodup ↔ (l.take i).Nodup ∧ l[i] ∉ l.take i := by
  rw [List.take_succ_eq_append_getElem h, List.nodup_append]
  constructor
  · rintro ⟨h1, _, h3⟩
    exact ⟨h1, fun hm => h3 _ hm _ (by simp) rfl⟩
  · rintro ⟨h1, h2⟩
    refine ⟨h1, by simp, fun a ha b hb e => h2 ?_⟩
    simp at hb
    rw [← hb, ← e]; exact ha
theorem nodup_of_take {α : Type} {l : List α} (h : l.Nodup) (i : Nat) : (l.take i).Nodup := h.sublist (List.take_sublist i l)
theorem take_mem_idx {α : Type} {l : List α} {i : Nat} {x : α} : x ∈ l.take i ↔ ∃ j, ∃ h : j < l.length, j < i ∧ l[j] = x := by
  rw [List.mem_iff_getElem]
  constructor
  · rintro ⟨j, hj, e⟩
    rw [List.length_take] at hj
    exact ⟨j, by omega, by omega, by rw [← e, List.getElem_take]⟩
  · rintro ⟨j, h, hj, e⟩
    exact ⟨j, by rw [List.length_take]; omega, by rw [List.getElem_take]; exact e⟩
theorem same_l0 (a b : List Int) (ha : a.length ≤ 1000000) (hl : a.length = b.length) (x y : Int) : ∀ (d i : Nat), i + d = a.length → Ev (fun k => wickerref02_Same.l0 k (i : Int) x a y b) (decide (a.drop i = b.drop i)) := by
  intro d
  induction d with
  | zero =>
    intro i hi
    refine ev_nowS fun k => ?_
    rw [wickerref02_Same.l0, if_neg (by omega), List.drop_eq_nil_of_le (by omega), List.drop_eq_nil_of_le (by omega)]
    rfl
  | succ d ih =>
    intro i hi
    have h1 : i < a.length := by omega
    have h2 : i < b.length := by omega
    by_cases e : a[i] = b[i]
    · refine Ev.step (fun k => ?_) (Ev.eq (ih (i + 1) (by omega)) ?_)
      · rw [wickerref02_Same.l0, if_pos (by omega), if_pos (by omega), if_pos (by omega), rd_at a i h1, rd_at b i h2, if_pos e, succ64 (by omega)]
      · rw [List.drop_eq_getElem_cons h1, List.drop_eq_getElem_cons h2, decide_eq_decide, List.cons.injEq]
        exact ⟨fun h => ⟨e, h⟩, fun h => h.2⟩
    · refine ev_nowS fun k => ?_
      rw [wickerref02_Same.l0, if_pos (by omega), if_pos (by omega), if_pos (by omega), rd_at a i h1, rd_at b i h2, if_neg e, List.drop_eq_getElem_cons h1, List.drop_eq_getElem_cons h2, decide_eq_false (fun h => e (by injection h))]
theorem same_f (r s : GRule) (hr : r.f1.length ≤ 1000000) (hs : s.f1.length ≤ 1000000) : Ev (fun k => wickerref02_Same.f k r.f0 r.f1 s.f0 s.f1) (decide (r = s)) := by
  have hext : r = s ↔ r.f0 = s.f0 ∧ r.f1 = s.f1 := ⟨fun e => by rw [e]; exact ⟨rfl, rfl⟩, fun h => by cases r; cases s; simp only at h; rw [h.1, h.2]⟩
  unfold wickerref02_Same.f
  by_cases h0 : r.f0 = s.f0
  · refine Ev.pos h0 ?_
    by_cases hl : r.f1.length = s.f1.length
    · refine Ev.step (fun k => ?_) (Ev.eq (same_l0 r.f1 s.f1 hr hl r.f0 s.f0 r.f1.length 0 (by omega)) ?_)
      · rw [wickerref02_Same.j0, if_neg (by simp [hl])]; rfl
      · rw [List.drop_zero, List.drop_zero]; simp [hext, h0]
    · refine ev_nowS fun k => ?_
      rw [wickerref02_Same.j0, if_pos (by rw [bne_iff_ne]; omega)]
      simp [hext, h0]
      intro e; exact hl (by rw [e])
  · refine Ev.neg h0 (ev_nowS fun k => ?_)
    rw [wickerref02_Same.j0, if_pos rfl]
    simp [hext, h0]
def findG (r : GRule) : List GRule → Int → Int
  | [], _ => -1
  | x :: t, i => if x = r then i else findG r t (i + 1)
theorem ruleOk_len {r : GRule} (h : ruleOk r = true) : r.f1.length ≤ 1000000 := by
  simp only [ruleOk, Bool.and_eq_true, decide_eq_true_eq] at h
  exact h.1.2
theorem find_l0 (l : List GRule) (hn : l.length ≤ 1000000) (hok : l.all ruleOk = true) (r : GRule) (hr : r.f1.length ≤ 1000000) : ∀ (d i : Nat), i + d = l.length → Ev (fun k => wickerref02_Find.l0 k (l.map ofR) (i : Int) r.f0 r.f1) (findG r (l.drop i) (i : Int)) := by
  intro d
  induction d with
  | zero =>
    intro i hi
    refine ev_nowS fun k => ?_
    rw [wickerref02_Find.l0, List.length_map, if_neg (by omega), List.drop_eq_nil_of_le (by omega)]; rfl
  | succ d ih =>
    intro i hi
    have h1 : i < l.length := by omega
    have hs := same_f l[i] r (ruleOk_len (List.all_eq_true.1 hok _ (List.getElem_mem _))) hr
    refine Ev.step (f := fun k => (wickerref02_Same.f k l[i].f0 l[i].f1 r.f0 r.f1).bind fun t => if t = true then some (i : Int) else wickerref02_Find.l0 k (l.map ofR) ((i + 1 : Nat) : Int) r.f0 r.f1) (fun k => ?_) (Ev.bind hs ?_)
    · rw [wickerref02_Find.l0, List.length_map, if_pos (by omega), if_pos (by omega), rdS l i h1, succ64 (by omega)]; rfl
    · rw [List.drop_eq_getElem_cons h1, findG]
      by_cases e : l[i] = r
      · rw [if_pos e]; exact Ev.pos (decide_eq_true e) (Ev.now _)
      · rw [if_neg e]; exact Ev.neg (by rw [decide_eq_false e]; simp) (ih (i + 1) (by omega))
theorem find_f (l : List GRule) (hn : l.length ≤ 1000000) (hok : l.all ruleOk = true) (r : GRule) (hr : r.f1.length ≤ 1000000) : Ev (fun k => wickerref02_Find.f k (l.map ofR) r.f0 r.f1) (findG r l 0) := find_l0 l hn hok r hr l.length 0 (by omega)
theorem findG_lt (r : GRule) : ∀ (l : List GRule) (m i : Nat), (r ∈ l.take m → findG r l i < ((i + m : Nat) : Int)) ∧ (r ∈ l → r ∉ l.take m → ((i + m : Nat) : Int) ≤ findG r l i) := by
  intro l
  induction l with
  | nil => intro m i; simp
  | cons a l ih =>
    intro m i
    cases m with
    | zero =>
      refine ⟨by simp, fun h _ => ?_⟩
      rw [findG]
      by_cases e : a = r
      · rw [if_pos e]; omega
      · rw [if_neg e]
        have := (ih 0 (i + 1)).2 (by rcases List.mem_cons.1 h with h | h; exact absurd h.symm e; exact h) (by simp)
        have e2 : ((i : Int) + 1) = ((i + 1 : Nat) : Int) := by omega
        rw [e2]; omega
    | succ m =>
      have e2 : ((i : Int) + 1) = ((i + 1 : Nat) : Int) := by omega
      rw [findG, List.take_succ_cons, e2]
      by_cases e : a = r
      · rw [if_pos e]
        exact ⟨fun _ => by omega, fun _ hn => absurd (by rw [e]; simp) hn⟩
      · rw [if_neg e]
        obtain ⟨h1, h2⟩ := ih m (i + 1)
        refine ⟨fun h => ?_, fun h hn => ?_⟩
        · have := h1 (by rcases List.mem_cons.1 h with h | h; exact absurd h.symm e; exact h); omega
        · have := h2 (by rcases List.mem_cons.1 h with h | h; exact absurd h.symm e; exact h) (fun hm => hn (List.mem_cons_of_mem _ hm)); omega
theorem findG_take (l : List GRule) (i : Nat) (h : i < l.length) : findG l[i] l 0 < (i : Int) ↔ l[i] ∈ l.take i := by
  have hh := findG_lt l[i] l i 0
  rw [Nat.zero_add] at hh
  constructor
  · intro hlt
    apply Classical.byContradiction
    intro hn
    have := hh.2 (List.getElem_mem _) hn
    have e : findG l[i] l ((0 : Nat) : Int) = findG l[i] l 0 := rfl
    omega
  · intro hm; exact hh.1 hm
theorem twice_l1 (l : List ByteArray) (hn : l.length ≤ 1000000) (i : Nat) (hi : i < l.length) (R : Bool) (hno : l[i] ∉ l.take i → Ev (fun k => wickerref02_twice.l0 k l ((i + 1 : Nat) : Int)) R) (hyes : l[i] ∈ l.take i → R = true) :
    ∀ (d j : Nat), j + d = i → l[i] ∉ l.take j → Ev (fun k => wickerref02_twice.l1 k l (i : Int) (j : Int)) R := by
  intro d
  induction d with
  | zero =>
    intro j hj hm
    obtain rfl : j = i := by omega
    refine Ev.step (fun k => ?_) (hno hm)
    rw [wickerref02_twice.l1, if_neg (by omega), succ64 (by omega)]
  | succ d ih =>
    intro j hj hm
    have hjl : j < l.length := by omega
    by_cases e : l[i] = l[j]
    · rw [hyes (take_mem_idx.2 ⟨j, hjl, by omega, e.symm⟩)]
      refine ev_nowS fun k => ?_
      rw [wickerref02_twice.l1, if_pos (by omega), if_pos (by omega), if_pos (by omega), if_pos (by omega), if_pos (by omega), rdB l i hi, rdB l j hjl, if_pos (by rw [e])]
    · refine Ev.step (fun k => ?_) (ih (j + 1) (by omega) ?_)
      · rw [wickerref02_twice.l1, if_pos (by omega), if_pos (by omega), if_pos (by omega), if_pos (by omega), if_pos (by omega), rdB l i hi, rdB l j hjl, if_neg (fun h => e ((ba_list _ _).1 h)), succ64 (by omega)]
      · rw [List.take_succ_eq_append_getElem hjl, List.mem_append]
        rintro (h | h)
        · exact hm h
        · exact e (by simpa using h)
theorem twice_l0 (l : List ByteArray) (hn : l.length ≤ 1000000) : ∀ (d i : Nat), i + d = l.length → (l.take i).Nodup → Ev (fun k => wickerref02_twice.l0 k l (i : Int)) (!decide l.Nodup) := by
  intro d
  induction d with
  | zero =>
    intro i hi hd
    rw [List.take_of_length_le (by omega)] at hd
    refine ev_nowS fun k => ?_
    rw [wickerref02_twice.l0, if_neg (by omega)]; simp [hd]
  | succ d ih =>
    intro i hi hd
    have h1 : i < l.length := by omega
    refine Ev.step (fun k => ?_) (twice_l1 l hn i h1 (!decide l.Nodup) (fun h => ih (i + 1) (by omega) ((nodup_take l i h1).2 ⟨hd, h⟩)) (fun h => ?_) i 0 (by omega) (by simp))
    · rw [wickerref02_twice.l0, if_pos (by omega)]; rfl
    · have : ¬ l.Nodup := fun hN => ((nodup_take l i h1).1 (nodup_of_take hN _)).2 h
      simp [this]
theorem twice_f (l : List ByteArray) (hn : l.length ≤ 1000000) : Ev (fun k => wickerref02_twice.f k l) (!decide l.Nodup) := twice_l0 l hn l.length 0 (by omega) (by simp)
theorem refhas_f (l0 l1 : List ByteArray) (h1 : l1.length ≤ 1000000) (a2 : Int) (l3 : List RRule) (s : Int) : wickerref02_Has.f l0 l1 a2 l3 s = some (hasB l0.length l1.length s) := by
  unfold wickerref02_Has.f hasB
  rw [w64 (by omega) (by omega)]
  by_cases hs : s < 0
  · rw [if_pos (by omega), if_pos hs]
    congr 1
    by_cases h : (l1.length : Int) > -1 - s
    · rw [decide_eq_true (by omega), decide_eq_true (by omega)]
    · rw [decide_eq_false (by omega), decide_eq_false (by omega)]
  · rw [if_neg hs]
    by_cases h : s < (l0.length : Int)
    · rw [if_pos h, decide_eq_true (by omega), decide_eq_true h]
    · rw [if_neg h, decide_eq_false h]
section
variable (l0 l1 : List ByteArray) (a2 : Int) (l3 : List GRule) (h0 : l0.length ≤ 1000000) (h1 : l1.length ≤ 1000000) (hn : l3.length ≤ 1000000) (hok : l3.all ruleOk = true)
include h0 h1 hn hok
omit h0 h1 in
theorem check_l4 : ∀ (d i : Nat), i + d = l3.length → (l3.take i).Nodup → Ev (fun k => wickerref02_Check.l4 k (i : Int) l0 l1 a2 (l3.map ofR)) (if l3.Nodup then 0 else 2) := by
  intro d
  induction d with
  | zero =>
    intro i hi hd
    rw [List.take_of_length_le (by omega)] at hd
    rw [if_pos hd]
    refine ev_nowS fun k => ?_
    rw [wickerref02_Check.l4, List.length_map, if_neg (by omega)]
  | succ d ih =>
    intro i hi hd
    have hi1 : i < l3.length := by omega
    have hf := find_f l3 hn hok l3[i] (ruleOk_len (List.all_eq_true.1 hok _ (List.getElem_mem _)))
    refine Ev.step (f := fun k => (wickerref02_Find.f k (l3.map ofR) l3[i].f0 l3[i].f1).bind fun t => if t < (i : Int) then some 2 else wickerref02_Check.l4 k ((i + 1 : Nat) : Int) l0 l1 a2 (l3.map ofR)) (fun k => ?_) (Ev.bind hf ?_)
    · rw [wickerref02_Check.l4, List.length_map, if_pos (by omega), if_pos (by omega), rdS l3 i hi1, succ64 (by omega)]; rfl
    · by_cases e : l3[i] ∈ l3.take i
      · rw [if_neg (fun hN => ((nodup_take l3 i hi1).1 (nodup_of_take hN _)).2 e)]
        exact Ev.pos ((findG_take l3 i hi1).2 e) (Ev.now _)
      · exact Ev.neg (fun h => e ((findG_take l3 i hi1).1 h)) (ih (i + 1) (by omega) ((nodup_take l3 i hi1).2 ⟨hd, e⟩))
omit h0 in
theorem check_l3 (i : Nat) (hi : i < l3.length) (R : Int) (hbad : ¬ (l3[i].f1.all (hasB l0.length l1.length) = true) → R = 3) (hlong : l3[i].f1.all (hasB l0.length l1.length) = true → 64 < l3[i].f1.length → R = 5) (hgo : l3[i].f1.all (hasB l0.length l1.length) = true → ¬ 64 < l3[i].f1.length → Ev (fun k => wickerref02_Check.l2 k ((i + 1 : Nat) : Int) l0 l1 a2 (l3.map ofR)) R) :
    ∀ (d j : Nat), j + d = l3[i].f1.length → (l3[i].f1.take j).all (hasB l0.length l1.length) = true → Ev (fun k => wickerref02_Check.l3 k (i : Int) (j : Int) l0 l1 a2 (l3.map ofR) l3[i].f0 l3[i].f1) R := by
  have hl := ruleOk_len (List.all_eq_true.1 hok _ (List.getElem_mem hi))
  intro d
  induction d with
  | zero =>
    intro j hj ha
    rw [List.take_of_length_le (by omega)] at ha
    by_cases h64 : 64 < l3[i].f1.length
    · rw [hlong ha h64]
      refine ev_nowS fun k => ?_
      rw [wickerref02_Check.l3, if_neg (by omega), if_pos (by omega)]
    · refine Ev.step (fun k => ?_) (hgo ha h64)
      rw [wickerref02_Check.l3, if_neg (by omega), if_neg (by omega), succ64 (by omega)]
  | succ d ih =>
    intro j hj ha
    have hj1 : j < l3[i].f1.length := by omega
    by_cases hb : hasB l0.length l1.length l3[i].f1[j] = true
    · refine Ev.step (fun k => ?_) (ih (j + 1) (by omega) (by rw [List.take_succ_eq_append_getElem hj1, List.all_append, ha]; simp [hb]))
      rw [wickerref02_Check.l3, if_pos (by omega), if_pos (by omega), rd_at _ j hj1, refhas_f l0 l1 h1, Option.bind_some, if_pos hb, succ64 (by omega)]
    · rw [hbad (fun h => hb (List.all_eq_true.1 h _ (List.getElem_mem _)))]
      refine ev_nowS fun k => ?_
      rw [wickerref02_Check.l3, if_pos (by omega), if_pos (by omega), rd_at _ j hj1, refhas_f l0 l1 h1, Option.bind_some, if_neg hb]
omit h0 in
theorem check_l2 : ∀ (d i : Nat), i + d = l3.length → Ev (fun k => wickerref02_Check.l2 k (i : Int) l0 l1 a2 (l3.map ofR)) (match (l3.drop i).find? (fun r => decide (ruleC l0.length l1.length r ≠ 0)) with
    | some r => ruleC l0.length l1.length r
    | none => if l3.Nodup then 0 else 2) := by
  intro d
  induction d with
  | zero =>
    intro i hi
    rw [List.drop_eq_nil_of_le (by omega)]
    refine Ev.step (fun k => ?_) (check_l4 l0 l1 a2 l3 hn hok l3.length 0 (by omega) (by simp))
    rw [wickerref02_Check.l2, List.length_map, if_neg (by omega)]; rfl
  | succ d ih =>
    intro i hi
    have hi1 : i < l3.length := by omega
    rw [List.drop_eq_getElem_cons hi1, List.find?_cons]
    have key : ∀ b : Bool, b = decide (l3[i].f0 < 0 ∨ (l0.length : Int) ≤ l3[i].f0) → Ev (fun k => wickerref02_Check.j6 k (i : Int) b l0 l1 a2 (l3.map ofR) l3[i].f0 l3[i].f1) (match (match decide (ruleC l0.length l1.length l3[i] ≠ 0) with | true => some l3[i] | false => (l3.drop (i + 1)).find? (fun r => decide (ruleC l0.length l1.length r ≠ 0))) with
        | some r => ruleC l0.length l1.length r
        | none => if l3.Nodup then 0 else 2) := by
      intro b hb
      by_cases hL : l3[i].f0 < 0 ∨ (l0.length : Int) ≤ l3[i].f0
      · have e3 : ruleC l0.length l1.length l3[i] = 3 := by unfold ruleC; rw [if_pos (by rcases hL with h | h; exact .inl h; exact .inr (.inl h))]
        rw [show decide (ruleC l0.length l1.length l3[i] ≠ 0) = true by rw [e3]; rfl]
        simp only [e3]
        refine ev_nowS fun k => ?_
        rw [wickerref02_Check.j6, if_pos (by rw [hb, decide_eq_true hL])]
      · refine Ev.step (fun k => ?_) (check_l3 l0 l1 a2 l3 h1 hn hok i hi1 _ (fun hbad => ?_) (fun ha h64 => ?_) (fun ha h64 => ?_) l3[i].f1.length 0 (by omega) (by simp))
        · rw [wickerref02_Check.j6, if_neg (by rw [hb, decide_eq_false hL]; simp)]; rfl
        · have e3 : ruleC l0.length l1.length l3[i] = 3 := by unfold ruleC; rw [if_pos (.inr (.inr hbad))]
          rw [show decide (ruleC l0.length l1.length l3[i] ≠ 0) = true by rw [e3]; rfl]; simp only [e3]
        · have e5 : ruleC l0.length l1.length l3[i] = 5 := by unfold ruleC; rw [if_neg (fun h => h.elim (fun h => hL (.inl h)) (fun h => h.elim (fun h => hL (.inr h)) (fun h => h ha))), if_pos h64]
          rw [show decide (ruleC l0.length l1.length l3[i] ≠ 0) = true by rw [e5]; rfl]; simp only [e5]
        · have e0 : ruleC l0.length l1.length l3[i] = 0 := by unfold ruleC; rw [if_neg (fun h => h.elim (fun h => hL (.inl h)) (fun h => h.elim (fun h => hL (.inr h)) (fun h => h ha))), if_neg h64]
          rw [show decide (ruleC l0.length l1.length l3[i] ≠ 0) = false by rw [e0]; rfl]
          exact ih (i + 1) (by omega)
    by_cases hneg : l3[i].f0 < 0
    · refine Ev.step (fun k => ?_) (key true (by rw [decide_eq_true (.inl hneg)]))
      rw [wickerref02_Check.l2, List.length_map, if_pos (by omega), if_pos (by omega), rdS l3 i hi1]
      exact if_pos hneg
    · refine Ev.step (fun k => ?_) (key (decide (l3[i].f0 ≥ (l0.length : Int))) (by
        by_cases h : (l0.length : Int) ≤ l3[i].f0
        · rw [decide_eq_true (show l3[i].f0 ≥ (l0.length : Int) from h), decide_eq_true (.inr h)]
        · rw [decide_eq_false (show ¬ l3[i].f0 ≥ (l0.length : Int) from h), decide_eq_false (fun hh => hh.elim hneg h)]))
      rw [wickerref02_Check.l2, List.length_map, if_pos (by omega), if_pos (by omega), rdS l3 i hi1]
      exact if_neg hneg
end
theorem gram_bounds {l0 l1 : List ByteArray} {a2 : Int} {l3 : List GRule} (h : gramOk l0 l1 a2 l3 = true) : l0.length ≤ 1000000 ∧ l1.length ≤ 1000000 ∧ l3.length ≤ 1000000 ∧ (∀ s ∈ l0, s.size ≤ 1000000000) ∧ (∀ s ∈ l1, s.size ≤ 1000000000) ∧ symOk a2 = true ∧ l3.all ruleOk = true := by
  simp only [gramOk, Bool.and_eq_true, decide_eq_true_eq] at h
  exact ⟨h.1.1.1.1.1.1, h.1.1.1.1.1.2, h.1.1.1.1.2, fun s hs => of_decide_eq_true (List.all_eq_true.1 h.1.1.1.2 s hs), fun s hs => of_decide_eq_true (List.all_eq_true.1 h.1.1.2 s hs), h.1.2, h.2⟩
theorem all_drop_cons {l : List ByteArray} {p : ByteArray → Bool} {i : Nat} (h : i < l.length) : (l.take (i + 1)).all p = ((l.take i).all p && p l[i]) := by
  rw [List.take_succ_eq_append_getElem h, List.all_append]; simp
section
variable (l0 l1 : List ByteArray) (a2 : Int) (l3 : List GRule) (hg : gramOk l0 l1 a2 l3 = true)
include hg
theorem check_end (h0a : l0.all nmB = true) (h1a : l1.all mkB = true) :
    Ev (fun k => (wickerref02_twice.f k l0).bind fun t => if t = true then wickerref02_Check.j3 k true l0 l1 a2 (l3.map ofR) else (wickerref02_twice.f k l1).bind fun t => wickerref02_Check.j3 k t l0 l1 a2 (l3.map ofR))
      (if texC nmB l0 = 1 ∨ texC mkB l1 = 1 then 1 else if texC nmB l0 = 2 ∨ texC mkB l1 = 2 then 2 else if a2 < 0 ∨ (l0.length : Int) ≤ a2 then 3 else rulesC l0.length l1.length l3) := by
  obtain ⟨b0, b1, b3, s0, s1, _, hok⟩ := gram_bounds hg
  have c0 : texC nmB l0 = if l0.Nodup then 0 else 2 := by unfold texC; rw [if_pos h0a]
  have c1 : texC mkB l1 = if l1.Nodup then 0 else 2 := by unfold texC; rw [if_pos h1a]
  have n0 : ¬ (texC nmB l0 = 1 ∨ texC mkB l1 = 1) := by rw [c0, c1]; split <;> split <;> decide
  rw [if_neg n0]
  refine Ev.bind (twice_f l0 b0) ?_
  by_cases d0 : l0.Nodup
  · refine Ev.neg (by simp [d0]) (Ev.bind (twice_f l1 b1) ?_)
    by_cases d1 : l1.Nodup
    · rw [if_neg (by rw [c0, c1, if_pos d0, if_pos d1]; decide)]
      have go : Ev (fun k => wickerref02_Check.l2 k 0 l0 l1 a2 (l3.map ofR)) (rulesC l0.length l1.length l3) := check_l2 l0 l1 a2 l3 b1 b3 hok l3.length 0 (by omega)
      by_cases ha : a2 < 0
      · rw [if_pos (.inl ha)]
        refine Ev.step (f := fun k => wickerref02_Check.j4 k true l0 l1 a2 (l3.map ofR)) (fun k => ?_) (ev_nowS fun k => ?_)
        · rw [wickerref02_Check.j3, if_neg (by simp [d1]), if_pos ha]
        · rw [wickerref02_Check.j4, if_pos rfl]
      · by_cases hb : (l0.length : Int) ≤ a2
        · rw [if_pos (.inr hb)]
          refine Ev.step (f := fun k => wickerref02_Check.j4 k true l0 l1 a2 (l3.map ofR)) (fun k => ?_) (ev_nowS fun k => ?_)
          · rw [wickerref02_Check.j3, if_neg (by simp [d1]), if_neg ha, decide_eq_true (show a2 ≥ (l0.length : Int) from hb)]
          · rw [wickerref02_Check.j4, if_pos rfl]
        · rw [if_neg (by omega)]
          refine Ev.step (f := fun k => wickerref02_Check.j4 k false l0 l1 a2 (l3.map ofR)) (fun k => ?_) (Ev.step (fun k => ?_) go)
          · rw [wickerref02_Check.j3, if_neg (by simp [d1]), if_neg ha, decide_eq_false (show ¬ a2 ≥ (l0.length : Int) from hb)]
          · rw [wickerref02_Check.j4, if_neg (by simp)]
    · rw [if_pos (by rw [c0, c1, if_pos d0, if_neg d1]; decide)]
      refine ev_nowS fun k => ?_
      rw [wickerref02_Check.j3, if_pos (by simp [d1])]
  · rw [if_pos (by rw [c0, if_neg d0]; exact .inl rfl)]
    refine Ev.pos (by simp [d0]) (ev_nowS fun k => ?_)
    rw [wickerref02_Check.j3, if_pos rfl]
theorem check_l1 (h0a : l0.all nmB = true) : ∀ (d i : Nat), i + d = l1.length → (l1.take i).all mkB = true → Ev (fun k => wickerref02_Check.l1 k (i : Int) l0 l1 a2 (l3.map ofR))
      (if texC nmB l0 = 1 ∨ texC mkB l1 = 1 then 1 else if texC nmB l0 = 2 ∨ texC mkB l1 = 2 then 2 else if a2 < 0 ∨ (l0.length : Int) ≤ a2 then 3 else rulesC l0.length l1.length l3) := by
  have hb := gram_bounds hg
  intro d
  induction d with
  | zero =>
    intro i hi ha
    rw [List.take_of_length_le (by omega)] at ha
    refine Ev.step (fun k => ?_) (check_end l0 l1 a2 l3 hg h0a ha)
    rw [wickerref02_Check.l1, if_neg (by omega)]
  | succ d ih =>
    intro i hi ha
    have hi1 : i < l1.length := by omega
    by_cases hm : mkB l1[i] = true
    · refine Ev.step (fun k => ?_) (ih (i + 1) (by omega) (by rw [all_drop_cons hi1, ha, hm]; rfl))
      rw [wickerref02_Check.l1, if_pos (by omega), if_pos (by omega), rdB l1 i hi1, ref_mark_f, Option.bind_some, if_pos (show markL l1[i].data.toList = true from hm), succ64 (by omega)]
    · have : texC mkB l1 = 1 := by unfold texC; rw [if_neg (fun h => hm (List.all_eq_true.1 h _ (List.getElem_mem _)))]
      rw [if_pos (.inr this)]
      refine ev_nowS fun k => ?_
      rw [wickerref02_Check.l1, if_pos (by omega), if_pos (by omega), rdB l1 i hi1, ref_mark_f, Option.bind_some, if_neg (show ¬ markL l1[i].data.toList = true from hm)]
theorem check_l0 : ∀ (d i : Nat), i + d = l0.length → (l0.take i).all nmB = true → Ev (fun k => wickerref02_Check.l0 k (i : Int) l0 l1 a2 (l3.map ofR))
      (if texC nmB l0 = 1 ∨ texC mkB l1 = 1 then 1 else if texC nmB l0 = 2 ∨ texC mkB l1 = 2 then 2 else if a2 < 0 ∨ (l0.length : Int) ≤ a2 then 3 else rulesC l0.length l1.length l3) := by
  have hb := gram_bounds hg
  intro d
  induction d with
  | zero =>
    intro i hi ha
    rw [List.take_of_length_le (by omega)] at ha
    refine Ev.step (fun k => ?_) (check_l1 l0 l1 a2 l3 hg ha l1.length 0 (by omega) (by simp))
    rw [wickerref02_Check.l0, if_neg (by omega)]; rfl
  | succ d ih =>
    intro i hi ha
    have hi1 : i < l0.length := by omega
    have hnf := ref_name_f l0[i] (by have := hb.2.2.2.1 _ (List.getElem_mem hi1); omega)
    refine Ev.step (f := fun k => (wickerref01_Name.f k l0[i]).bind fun t => if t = true then wickerref02_Check.l0 k ((i + 1 : Nat) : Int) l0 l1 a2 (l3.map ofR) else some 1) (fun k => ?_) (Ev.bind hnf ?_)
    · rw [wickerref02_Check.l0, if_pos (by omega), if_pos (by omega), rdB l0 i hi1, succ64 (by omega)]
    · by_cases hm : nmB l0[i] = true
      · exact Ev.pos hm (ih (i + 1) (by omega) (by rw [all_drop_cons hi1, ha, hm]; rfl))
      · have : texC nmB l0 = 1 := by unfold texC; rw [if_neg (fun h => hm (List.all_eq_true.1 h _ (List.getElem_mem _)))]
        rw [if_pos (.inl this)]
        exact Ev.neg hm (Ev.now _)
theorem ref_check_f : Ev (fun k => wickerref02_Check.f k l0 l1 a2 (l3.map ofR)) (checkC nmB mkB l0 l1 a2 l3) := by
  have full : Ev (fun k => wickerref02_Check.j0 k true l0 l1 a2 (l3.map ofR)) 11 := ev_nowS fun k => by rw [wickerref02_Check.j0, if_pos rfl]
  unfold wickerref02_Check.f checkC
  by_cases x0 : l0.length = 0
  · rw [if_pos (.inl x0)]; exact Ev.pos (by omega) full
  by_cases x1 : 2048 < l0.length
  · rw [if_pos (.inr (.inl x1))]; exact Ev.neg (by omega) (Ev.pos (by omega) full)
  by_cases x2 : 2048 < l1.length
  · rw [if_pos (.inr (.inr (.inl x2)))]; exact Ev.neg (by omega) (Ev.neg (by omega) (Ev.pos (by omega) full))
  refine Ev.neg (by omega) (Ev.neg (by omega) (Ev.neg (by omega) ?_))
  rw [List.length_map]
  by_cases x3 : 8192 < l3.length
  · rw [if_pos (.inr (.inr (.inr x3))), decide_eq_true (by omega)]; exact full
  · rw [if_neg (by omega), decide_eq_false (by omega)]
    refine Ev.step (fun k => ?_) (check_l0 l0 l1 a2 l3 hg l0.length 0 (by omega) (by simp))
    rw [wickerref02_Check.j0, if_neg (by simp)]; rfl
end
end Go.Proofs.YtgdcnmpcfoomiaaDoor.G
end
section
set_option linter.unusedVariables false
set_option linter.unusedSimpArgs false
namespace Go.Proofs.YtgdcnmpcfoomiaaDoor.G
open Go Go.Proofs Go.RowKit Go.Proofs.YtgdcnmpcfoomiaaDoorW.PrintWords Go.Proofs.YtgdcnmpcfoomiaaDoor.Pure
def idxT (left : Int) (l : List GRule) : Nat → List Int
  | 0 => []
  | j + 1 => match l[j]? with
    | some r => if r.f0 = left then idxT left l j ++ [(j : Int)] else idxT left l j
    | none => idxT left l j
theorem idxT_yes {left : Int} {l : List GRule} {j : Nat} (h : j < l.length) (e : l[j].f0 = left) : idxT left l (j + 1) = idxT left l j ++ [(j : Int)] := by
  rw [idxT, List.getElem?_eq_getElem h]; exact if_pos e
theorem idxT_no {left : Int} {l : List GRule} {j : Nat} (h : j < l.length) (e : ¬ l[j].f0 = left) : idxT left l (j + 1) = idxT left l j := by
  rw [idxT, List.getElem?_eq_getElem h]; exact if_neg e
theorem idxT_le (left : Int) (l : List GRule) : ∀ j, (idxT left l j).length ≤ j := by
  intro j
  induction j with
  | zero => simp [idxT]
  | succ j ih =>
    rw [idxT]
    split
    · split
      · rw [List.length_append, List.length_singleton]; omega
      · omega
    · omega
theorem of_l0 (l0 l1 : List ByteArray) (a2 : Int) (l3 : List GRule) (left : Int) (hn : l3.length ≤ 1000000) : ∀ (d i : Nat), i + d = l3.length → Ev (fun k => gram_Grammar_Of.l0 k left (idxT left l3 i) (l3.length : Int) (i : Int) l0 l1 a2 l3) (idxT left l3 l3.length) := by
  intro d
  induction d with
  | zero =>
    intro i hi
    obtain rfl : i = l3.length := by omega
    refine ev_nowS fun k => ?_
    rw [gram_Grammar_Of.l0, if_neg (by omega)]
  | succ d ih =>
    intro i hi
    have hi1 : i < l3.length := by omega
    have hle := idxT_le left l3 i
    by_cases e : l3[i].f0 = left
    · refine Ev.step (fun k => ?_) (ih (i + 1) (by omega))
      rw [gram_Grammar_Of.l0, if_pos (by omega), if_pos (by omega), if_pos (by omega), rdG l3 i hi1, if_pos e, if_pos (by omega), wsucc (by omega), idxT_yes hi1 e]
    · refine Ev.step (fun k => ?_) (ih (i + 1) (by omega))
      rw [gram_Grammar_Of.l0, if_pos (by omega), if_pos (by omega), if_pos (by omega), rdG l3 i hi1, if_neg e, wsucc (by omega), idxT_no hi1 e]
theorem gof_f (l0 l1 : List ByteArray) (a2 : Int) (l3 : List GRule) (left : Int) (hn : l3.length ≤ 1000000) : Ev (fun k => gram_Grammar_Of.f k l0 l1 a2 l3 left) (idxT left l3 l3.length) := of_l0 l0 l1 a2 l3 left hn l3.length 0 (by omega)
end Go.Proofs.YtgdcnmpcfoomiaaDoor.G
end
section
namespace Go.Proofs.YtgdcnmpcfoomiaaDoor.G
open Go.RowKit Go.Proofs.YtgdcnmpcfoomiaaDoorW.PrintWords Go.Proofs.YtgdcnmpcfoomiaaDoorW.PrintLast Go.Proofs.YtgdcnmpcfoomiaaDoorW.PrintMore
attribute [local go_sem] max2_int min2_int max_two min_two max_three min_three max_four min_four
attribute [local go_sem] Go.Proofs.YtgdcnmpcfoomiaaDoorOwn.isSome_setCell
set_option linter.unusedVariables false
set_option linter.unusedSimpArgs false
def units_to.f (a0_0 : Int) (l0_1 : List Int) : Option (Int) := if (l0_1.length : Int) = 1 then (if 0 < (l0_1.length : Int) then ((gram_Sym_IsTerm.f (rd l0_1 0)).bind fun t103 => (if t103 = true then (some (-1)) else ((gram_Sym_Place.f (rd l0_1 0)).bind fun t105 => (some t105)))) else (none)) else (some (-1))
set_option maxHeartbeats 8000000 in
set_option maxRecDepth 100000 in
theorem units_to.calls (a0_0 : Int) (A0_1 : Option Addr) (c0_1 : Nat) (l0_1 : List Int) (r : Int) (w : World) (hr0_1 : Kd.C (Kd.int .i64) w A0_1 l0_1.length l0_1) (hc0_1 : l0_1.length ≤ c0_1) (h : units_to.f a0_0 l0_1 = some r) :
  Calls Tryd.prog 79 #[.agg #[.int .i64 a0_0, .slice A0_1 l0_1.length c0_1]] w fun e w' => e = .returned (.int .i64 r) ∧ Below w.heap.size w w' := by
 have hu35 := Tryd.underlying35
 have HR0_1 := Aside0.mk hr0_1
 have HC0_1 := Aside0.mk hc0_1
 clear hr0_1 hc0_1
 have HB := Aside0.mk (Below.refl w.heap.size w)
 have H : (if (l0_1.length : Int) = 1 then (if 0 < (l0_1.length : Int) then ((gram_Sym_IsTerm.f (rd l0_1 0)).bind fun t103 => (if t103 = true then (some (-1)) else ((gram_Sym_Place.f (rd l0_1 0)).bind fun t105 => (some t105)))) else (none)) else (some (-1))) = some r := h
 clear h
 by_cases c2 : (l0_1.length : Int) = 1
 ·rw [if_pos c2] at H
  have c2b0 : ((l0_1.length : Int) == 1) = true := beq_iff_eq.mpr c2
  have c2b1 : ((l0_1.length : Int) != 1) = false := bne_eq_false_iff_eq.mpr c2
  clear c2
  by_cases c3 : 0 < (l0_1.length : Int)
  ·rw [if_pos c3] at H
   have c3b0 : decide (0 < (l0_1.length : Int)) = true := decide_eq_true c3
   have c3b1 : decide (0 < l0_1.length) = true := decide_eq_true (by omega)
   clear c3
   replace H := Option.bind_eq_some_iff.mp H
   obtain ⟨t103, A40, H⟩ := H
   replace H : (if t103 = true then (some (-1)) else ((gram_Sym_Place.f (rd l0_1 0)).bind fun t105 => (some t105))) = some r := H
   have A4 := Aside0.mk A40
   clear A40
   by_cases c5 : t103 = true
   ·subst c5
    have H1 : (some (-1)) = some r := by rw [if_pos rfl] at H; exact H
    clear H
    have H := H1
    clear H1
    obtain rfl := Option.some.inj H
    go_enter Tryd.func79, Tryd.ntmps79
    go_wp2_with (first | ((with_reducible refine gate_dst (N := 1) rfl ?_); refine box_event ?hg (N := 1) ?hd (cs := #[.int .i64 a0_0, .slice A0_1 l0_1.length c0_1]) (t := 35) ?hr ?_; (case hd => rfl); (case hg => rfl); (case hr => first | (go_simp; done) | (go_simp; rfl)); intro gb101 hg w6 hbox hb; have n0_ := Aside0.mk (below_step (by repeat (first | (with_reducible first | exact HB.out | apply below_alloc | apply pw_below_drewN | apply below_drew1) | exact HB.out)) hb); have n1_ := Aside0.mk (hbox); have n2_ := Aside0.mk ((by rw [hg]; exact (below_size (by repeat (first | (with_reducible first | exact HB.out | apply below_alloc | apply pw_below_drewN | apply below_drew1) | exact HB.out))) : w.heap.size ≤ gb101)); have n3_ := Aside0.mk ((by rw [hg]; exact (below_size (by repeat (first | (with_reducible first | exact HB.out | apply below_alloc | apply pw_below_drewN | apply below_drew1) | exact HB.out))) : w.heap.size ≤ gb101)); clear HB; have HB := n0_; have BK101 := n1_; have GW101 := n2_; have GE101 := n3_; clear n0_ n1_ n2_ n3_; clear hb hbox hg; have hcz7_0 : w6.cell? ⟨gb101, 0, none⟩ = some (.int .i64 a0_0) := (blk_cell BK101.out 0).trans rfl; have hcz7_1 : w6.cell? ⟨gb101, 1, none⟩ = some (.slice A0_1 l0_1.length c0_1) := (blk_cell BK101.out 1).trans rfl; have hfz7_0 := blk_frozen BK101.out 0; have hfz7_1 := blk_frozen BK101.out 1; have p102 : 0 ≤ (0 : Int) := (by omega); have q102 : 0 < (l0_1.length : Int) := of_decide_eq_true (by first | (with_reducible assumption) | assumption); obtain ⟨ad102, e102, hx102_0⟩ := Kd.at_int HR0_1.out 0 p102 q102; cases e102; have qi102 : (0 < l0_1.length) = True := eq_true (by omega); (try rw [show ((0 : Int)).toNat = 0 from rfl] at hx102_0); (try rw [Addr.add_zero'] at hx102_0); replace hx102_0 := (HB.out.cell (World.block_lt_of_cell? w _ hx102_0)).trans hx102_0; replace p102 := eq_true p102; replace q102 := eq_true q102) | (go_at_call 33; (with_reducible refine (gram_Sym_IsTerm.calls (rd l0_1 0) true _ A4.out).mono ?_); rintro e w' ⟨rfl, ⟨nd, rfl⟩⟩))
    go_ret
    exact ⟨by first | rfl | (simp [errW_none, errW_some] <;> rfl) | (simp [*, errW_none, errW_some] <;> rfl), by repeat (first | (with_reducible first | exact HB.out | apply below_alloc | apply pw_below_drewN | apply below_drew1 | refine below_set ?_ GE101.out) | exact HB.out)⟩
   ·replace c5 := Bool.eq_false_iff.mpr c5
    subst c5
    have H1 : ((gram_Sym_Place.f (rd l0_1 0)).bind fun t105 => (some t105)) = some r := by rw [if_neg (show ¬ (false = true) by decide)] at H; exact H
    clear H
    have H := H1
    clear H1
    replace H := Option.bind_eq_some_iff.mp H
    obtain ⟨t105, A80, H⟩ := H
    replace H : (some t105) = some r := H
    have A8 := Aside0.mk A80
    clear A80
    obtain rfl := Option.some.inj H
    go_enter Tryd.func79, Tryd.ntmps79
    go_wp2_with (first | ((with_reducible refine gate_dst (N := 1) rfl ?_); refine box_event ?hg (N := 1) ?hd (cs := #[.int .i64 a0_0, .slice A0_1 l0_1.length c0_1]) (t := 35) ?hr ?_; (case hd => rfl); (case hg => rfl); (case hr => first | (go_simp; done) | (go_simp; rfl)); intro gb101 hg w9 hbox hb; have n0_ := Aside0.mk (below_step (by repeat (first | (with_reducible first | exact HB.out | apply below_alloc | apply pw_below_drewN | apply below_drew1) | exact HB.out)) hb); have n1_ := Aside0.mk (hbox); have n2_ := Aside0.mk ((by rw [hg]; exact (below_size (by repeat (first | (with_reducible first | exact HB.out | apply below_alloc | apply pw_below_drewN | apply below_drew1) | exact HB.out))) : w.heap.size ≤ gb101)); have n3_ := Aside0.mk ((by rw [hg]; exact (below_size (by repeat (first | (with_reducible first | exact HB.out | apply below_alloc | apply pw_below_drewN | apply below_drew1) | exact HB.out))) : w.heap.size ≤ gb101)); clear HB; have HB := n0_; have BK101 := n1_; have GW101 := n2_; have GE101 := n3_; clear n0_ n1_ n2_ n3_; clear hb hbox hg; have hcz10_0 : w9.cell? ⟨gb101, 0, none⟩ = some (.int .i64 a0_0) := (blk_cell BK101.out 0).trans rfl; have hcz10_1 : w9.cell? ⟨gb101, 1, none⟩ = some (.slice A0_1 l0_1.length c0_1) := (blk_cell BK101.out 1).trans rfl; have hfz10_0 := blk_frozen BK101.out 0; have hfz10_1 := blk_frozen BK101.out 1; have p102 : 0 ≤ (0 : Int) := (by omega); have q102 : 0 < (l0_1.length : Int) := of_decide_eq_true (by first | (with_reducible assumption) | assumption); obtain ⟨ad102, e102, hx102_0⟩ := Kd.at_int HR0_1.out 0 p102 q102; cases e102; have qi102 : (0 < l0_1.length) = True := eq_true (by omega); (try rw [show ((0 : Int)).toNat = 0 from rfl] at hx102_0); (try rw [Addr.add_zero'] at hx102_0); replace hx102_0 := (HB.out.cell (World.block_lt_of_cell? w _ hx102_0)).trans hx102_0; replace p102 := eq_true p102; replace q102 := eq_true q102) | (go_at_call 33; (with_reducible refine (gram_Sym_IsTerm.calls (rd l0_1 0) false _ A4.out).mono ?_); rintro e w' ⟨rfl, ⟨nd, rfl⟩⟩; have p104 : 0 ≤ (0 : Int) := (by omega); have q104 : 0 < (l0_1.length : Int) := of_decide_eq_true (by first | (with_reducible assumption) | assumption); obtain ⟨ad104, e104, hx104_0⟩ := Kd.at_int HR0_1.out 0 p104 q104; obtain rfl : ad102 = ad104 := (by injection e104); have qi104 : (0 < l0_1.length) = True := eq_true (by omega); (try rw [show ((0 : Int)).toNat = 0 from rfl] at hx104_0); (try rw [Addr.add_zero'] at hx104_0); replace hx104_0 := (HB.out.cell (World.block_lt_of_cell? w _ hx104_0)).trans hx104_0; replace p104 := eq_true p104; replace q104 := eq_true q104) | ((with_reducible refine gate_callee (f := 34) rfl ?_); refine goesL_ (some 18) rfl rfl Tryd.func34 (by kernel_rfl) rfl #[.int .i64 (rd l0_1 0)] rfl (by (try simp only [List.map_toArray, List.map_cons, List.map_nil]); first | done | rfl | (simp only [List.length_drop, List.length_take]; rfl)) ?_; (with_reducible refine (gram_Sym_Place.calls (rd l0_1 0) t105 _ A8.out).mono ?_); rintro e w' ⟨rfl, ⟨nd, rfl⟩⟩; refine ⟨_, rfl, ?_⟩))
    go_ret
    exact ⟨by first | rfl | (simp [errW_none, errW_some] <;> rfl) | (simp [*, errW_none, errW_some] <;> rfl), by repeat (first | (with_reducible first | exact HB.out | apply below_alloc | apply pw_below_drewN | apply below_drew1 | refine below_set ?_ GE101.out) | exact HB.out)⟩
  ·rw [if_neg c3] at H
   exact absurd H (by simp)
 ·rw [if_neg c2] at H
  have c2b0 : ((l0_1.length : Int) == 1) = false := beq_eq_false_iff_ne.mpr c2
  have c2b1 : ((l0_1.length : Int) != 1) = true := bne_iff_ne.mpr c2
  obtain rfl := Option.some.inj H
  go_enter Tryd.func79, Tryd.ntmps79
  go_wp2_with (first | ((with_reducible refine gate_dst (N := 1) rfl ?_); refine box_event ?hg (N := 1) ?hd (cs := #[.int .i64 a0_0, .slice A0_1 l0_1.length c0_1]) (t := 35) ?hr ?_; (case hd => rfl); (case hg => rfl); (case hr => first | (go_simp; done) | (go_simp; rfl)); intro gb101 hg w11 hbox hb; have n0_ := Aside0.mk (below_step (by repeat (first | (with_reducible first | exact HB.out | apply below_alloc | apply pw_below_drewN | apply below_drew1) | exact HB.out)) hb); have n1_ := Aside0.mk (hbox); have n2_ := Aside0.mk ((by rw [hg]; exact (below_size (by repeat (first | (with_reducible first | exact HB.out | apply below_alloc | apply pw_below_drewN | apply below_drew1) | exact HB.out))) : w.heap.size ≤ gb101)); have n3_ := Aside0.mk ((by rw [hg]; exact (below_size (by repeat (first | (with_reducible first | exact HB.out | apply below_alloc | apply pw_below_drewN | apply below_drew1) | exact HB.out))) : w.heap.size ≤ gb101)); clear HB; have HB := n0_; have BK101 := n1_; have GW101 := n2_; have GE101 := n3_; clear n0_ n1_ n2_ n3_; clear hb hbox hg; have hcz12_0 : w11.cell? ⟨gb101, 0, none⟩ = some (.int .i64 a0_0) := (blk_cell BK101.out 0).trans rfl; have hcz12_1 : w11.cell? ⟨gb101, 1, none⟩ = some (.slice A0_1 l0_1.length c0_1) := (blk_cell BK101.out 1).trans rfl; have hfz12_0 := blk_frozen BK101.out 0; have hfz12_1 := blk_frozen BK101.out 1))
  go_ret
  exact ⟨by first | rfl | (simp [errW_none, errW_some] <;> rfl) | (simp [*, errW_none, errW_some] <;> rfl), by repeat (first | (with_reducible first | exact HB.out | apply below_alloc | apply pw_below_drewN | apply below_drew1 | refine below_set ?_ GE101.out) | exact HB.out)⟩
end Go.Proofs.YtgdcnmpcfoomiaaDoor.G
end
section
set_option linter.unusedVariables false
set_option linter.unusedSimpArgs false
namespace Go.Proofs.YtgdcnmpcfoomiaaDoor.G
open Go Go.Proofs Go.RowKit Go.Proofs.YtgdcnmpcfoomiaaDoorW.PrintWords Go.Proofs.YtgdcnmpcfoomiaaDoorW.PrintLast Go.Proofs.YtgdcnmpcfoomiaaDoorW.PrintMore Go.Proofs.YtgdcnmpcfoomiaaDoor.Pure
abbrev UMet := S76
def toI (r : GRule) : Int := match r.f1 with
  | [s] => if s < 0 then -1 else s
  | _ => -1
def knownB (b : Int) (out : List UMet) : Bool := out.any fun m => decide (m.f0 = b)
def wPut (l3 : List GRule) (c : List Int) (k : Int) (out : List UMet) : List UMet := match l3[k.toNat]? with
  | some r => if 0 ≤ toI r ∧ knownB (toI r) out = false then out ++ [⟨toI r, c ++ [k]⟩] else out
  | none => out
def wIn (l3 : List GRule) (c : List Int) : List Int → List UMet → List UMet
  | [], out => out
  | k :: ks, out => wIn l3 c ks (wPut l3 c k out)
def wOut (l3 : List GRule) : Nat → Nat → List UMet → List UMet
  | 0, _, out => out
  | f + 1, i, out => match out[i]? with
    | none => out
    | some m => wOut l3 f (i + 1) (wIn l3 m.f1 (idxT m.f0 l3 l3.length) out)
def walkC (l0 l1 : List ByteArray) (a2 : Int) (l3 : List GRule) (a : Int) : List UMet :=
  if checkC nmB mkB l0 l1 a2 l3 = 0 ∧ 0 ≤ a ∧ a < l0.length then wOut l3 (l0.length + 1) 0 [⟨a, []⟩] else []
theorem to_f (r : GRule) (h : ruleOk r = true) : units_to.f r.f0 r.f1 = some (toI r) := by
  obtain ⟨f0, l⟩ := r
  unfold units_to.f toI
  match l with
  | [] => simp
  | [s] =>
    have hs : symOk s = true := by
      simp only [ruleOk, Bool.and_eq_true] at h
      exact List.all_eq_true.1 h.2 s (by simp)
    rw [if_pos (by simp), if_pos (by simp), show rd [s] 0 = s from rfl, isTerm_f, Option.bind_some, place_f s hs]
    by_cases h0 : s < 0
    · rw [if_pos (decide_eq_true h0)]; simp [h0]
    · rw [if_neg (by simp [h0])]; simp [h0]
  | s :: t :: l => rw [if_neg (by simp; omega)]
theorem idxT_mem (left : Int) (l : List GRule) : ∀ (j : Nat) (x : Int), j ≤ l.length → x ∈ idxT left l j → ∃ i : Nat, ∃ h : i < l.length, x = (i : Int) ∧ i < j ∧ l[i].f0 = left := by
  intro j
  induction j with
  | zero => intro x _ h; simp [idxT] at h
  | succ j ih =>
    intro x hj h
    have hj1 : j < l.length := by omega
    by_cases e : l[j].f0 = left
    · rw [idxT_yes hj1 e] at h
      rcases List.mem_append.1 h with h | h
      · obtain ⟨i, hi, e1, e2, e3⟩ := ih x (by omega) h
        exact ⟨i, hi, e1, by omega, e3⟩
      · exact ⟨j, hj1, List.mem_singleton.1 h, by omega, e⟩
    · rw [idxT_no hj1 e] at h
      obtain ⟨i, hi, e1, e2, e3⟩ := ih x (by omega) h
      exact ⟨i, hi, e1, by omega, e3⟩
theorem nodupN : ∀ (n : Nat) (L : List Nat), L.Nodup → (∀ x ∈ L, x < n) → L.length ≤ n := by
  intro n
  induction n with
  | zero =>
    intro L _ h
    cases L with
    | nil => simp
    | cons a L => exact absurd (h a (by simp)) (by omega)
  | succ n ih =>
    intro L hd h
    have h1 := ih (L.erase n) (hd.erase n) (fun x hx => by
      have := h x (List.mem_of_mem_erase hx)
      have hne : x ≠ n := fun e => by subst e; exact hd.not_mem_erase hx
      omega)
    have h2 := List.length_erase (a := n) (l := L)
    split at h2 <;> omega
structure WInv (n : Nat) (out : List UMet) : Prop where
  nod : (out.map fun m => m.f0).Nodup
  lt : ∀ m ∈ out, 0 ≤ m.f0 ∧ m.f0 < n
  ch : ∀ (j : Nat) (m : UMet), out[j]? = some m → m.f1.length ≤ j
theorem WInv.len {n : Nat} {out : List UMet} (h : WInv n out) : out.length ≤ n := by
  have h1 := nodupN n (out.map fun m => m.f0.toNat) (by
    rw [List.nodup_iff_pairwise_ne, List.pairwise_map]
    have h2 := h.nod
    rw [List.nodup_iff_pairwise_ne, List.pairwise_map] at h2
    refine (List.pairwise_iff_getElem.2 fun i j hi hj hij e => ?_)
    have := List.pairwise_iff_getElem.1 h2 i j hi hj hij
    have a1 := h.lt _ (List.getElem_mem hi)
    have a2 := h.lt _ (List.getElem_mem hj)
    exact this (by omega)) (fun x hx => by
    obtain ⟨m, hm, rfl⟩ := List.mem_map.1 hx
    have := h.lt m hm; omega)
  rwa [List.length_map] at h1
theorem wPut_inv {n : Nat} {l3 : List GRule} (hfit : ∀ r ∈ l3, toI r < n) {c : List Int} {k : Int} {out : List UMet} (h : WInv n out) (hc : c.length < out.length) : WInv n (wPut l3 c k out) ∧ out.length ≤ (wPut l3 c k out).length := by
  unfold wPut
  split
  · rename_i r hr
    split
    · rename_i hh
      refine ⟨⟨?_, fun m hm => ?_, fun j m hj => ?_⟩, by rw [List.length_append]; omega⟩
      · rw [List.map_append, List.nodup_append]
        refine ⟨h.nod, by simp, fun x hx y hy e => ?_⟩
        obtain ⟨m, hm, rfl⟩ := List.mem_map.1 hx
        rw [List.map_singleton, List.mem_singleton] at hy
        have : knownB (toI r) out = true := List.any_eq_true.2 ⟨m, hm, decide_eq_true (by rw [e, hy])⟩
        rw [hh.2] at this; cases this
      · rcases List.mem_append.1 hm with hm | hm
        · exact h.lt m hm
        · rw [List.mem_singleton.1 hm]
          exact ⟨hh.1, hfit r (List.mem_of_getElem? hr)⟩
      · rcases Nat.lt_or_ge j out.length with hj1 | hj1
        · rw [List.getElem?_append_left hj1] at hj
          exact h.ch j m hj
        · rw [List.getElem?_append_right hj1] at hj
          have : j - out.length = 0 := by
            rcases Nat.eq_zero_or_pos (j - out.length) with h0 | h0
            · exact h0
            · rw [List.getElem?_eq_none (by simp; omega)] at hj; cases hj
          rw [this] at hj
          cases hj
          rw [List.length_append, List.length_singleton]; omega
    · exact ⟨h, Nat.le_refl _⟩
  · exact ⟨h, Nat.le_refl _⟩
theorem info_met : (Tryd.prog.info? 76).map (fun i => (i.zero, i.size, i.bytes)) = some (some (.agg #[.int .i64 0, .slice none 0 0]), k76.sz, 32) := by kernel_rfl
def findM (b : Int) (out : List UMet) : Int := match out.findIdx? (fun m => decide (m.f0 = b)) with
  | some i => (i : Int)
  | none => -1
theorem findM_known (b : Int) (out : List UMet) : decide (0 ≤ findM b out) = knownB b out := by
  unfold findM knownB
  cases h : out.findIdx? (fun m => decide (m.f0 = b)) with
  | none =>
    rw [List.findIdx?_eq_none_iff] at h
    have : (out.any fun m => decide (m.f0 = b)) = false := by
      rw [List.any_eq_false]
      intro m hm; simp [h m hm]
    rw [this]; rfl
  | some i =>
    rw [List.findIdx?_eq_some_iff_getElem] at h
    obtain ⟨hi, he, _⟩ := h
    have : (out.any fun m => decide (m.f0 = b)) = true := List.any_eq_true.2 ⟨_, List.getElem_mem hi, he⟩
    rw [this]; exact decide_eq_true (by simp)
set_option maxHeartbeats 1000000 in
set_option maxRecDepth 100000 in
theorem ask_calls (m : UMet) (b : Int) (B : Option Addr) (d : Nat) (pb : Nat) (W : World) (hp : W.heap[pb]? = some (.cells #[.int .i64 b] 3 (0, 0))) :
    Calls Tryd.prog 78 #[.agg #[.int .i64 m.f0, .slice B m.f1.length d], .pointer (some ⟨pb, 0, none⟩)] W fun e w' => e = .returned (.bool (decide (m.f0 = b))) ∧ Below W.heap.size W w' := by
  have hu := Tryd.underlying76
  have hp2 := blk_alloc hp (.cells #[.int .i64 m.f0, .slice B m.f1.length d] 76)
  have hz0 : (W.alloc (.cells #[.int .i64 m.f0, .slice B m.f1.length d] 76)).cell? ⟨pb, 0, none⟩ = some (.int .i64 b) := (blk_cell hp2 0).trans rfl
  have hq : (m.f0 == b) = decide (m.f0 = b) := rfl
  have HQ := Lib.hid hq
  clear hp hp2 hq
  go_enter Tryd.func78, Tryd.ntmps78
  go_wp2
  go_ret
  exact ⟨by first | rfl | (rw [← HQ.out]; rfl) | (simp; done), (Below.refl _ _).alloc (Nat.le_refl _) _⟩
theorem met_at {w W : World} {A : Option Addr} {n : Nat} {l : List UMet} (h : Kd.C k76 w A n l) (hB : Below w.heap.size w W) (j : Nat) (hj : j < l.length) (hn : n = l.length) : ∃ ad B1 d1, A = some ad ∧ W.cell? (ad.add (j * 2)) = some (.int .i64 l[j].f0) ∧ W.cell? ⟨(ad.add (j * 2)).block, (ad.add (j * 2)).off + 1, none⟩ = some (.slice B1 l[j].f1.length d1) ∧ l[j].f1.length ≤ d1 ∧ Kd.C (Kd.int .i64) W B1 l[j].f1.length l[j].f1 := by
  obtain ⟨ad, B1, d1, e0, hx0, hx1, hl1, hi1⟩ := at_T76 h (j : Int) (by omega) (by omega)
  have hrd : rd_T76 l (j : Int) = l[j] := by rw [rd_T76, Int.toNat_natCast, List.getD_eq_getElem?_getD, List.getElem?_eq_getElem hj]; rfl
  rw [hrd] at hx0 hx1 hl1 hi1
  rw [Int.toNat_natCast] at hx0 hx1
  exact ⟨ad, B1, d1, e0, (hB.cell (World.block_lt_of_cell? w _ hx0)).trans hx0, (hB.cell (World.block_lt_of_cell? w _ hx1)).trans hx1, hl1, Kd.C_below hi1 hB⟩
set_option maxHeartbeats 4000000 in
set_option maxRecDepth 100000 in
theorem idxm_calls (b : Int) (pb : Nat) (A : Option Addr) (c : Nat) (out : List UMet) (hn : out.length ≤ 1000000) (hc : out.length ≤ c) (w : World) (hr : Kd.C k76 w A out.length out) (hp : w.heap[pb]? = some (.cells #[.int .i64 b] 3 (0, 0))) :
    Calls Tryd.prog 97 #[.slice A out.length c, .func (.func 78) #[] #[.pointer (some ⟨pb, 0, none⟩)]] w fun e w' => e = .returned (.int .i64 (findM b out)) ∧ Below w.heap.size w w' := by
  have hu := Tryd.underlying76
  have HR := Lib.hid hr
  have HP := Lib.hid hp
  have hcall := fun (u : Value) (W : World) => (show Sem.run Tryd.prog (callFunc 78 #[u, .pointer (some ⟨pb, 0, none⟩)]) W = .ok (.enter 78 #[u, .pointer (some ⟨pb, 0, none⟩)]) W by kernel_rfl)
  clear hr hp
  go_enter Tryd.func97, Tryd.ntmps97
  go_wp2
  go_loopw [8] (fun i wr => ∃ j : Nat, j ≤ out.length ∧ i = .int .i64 j ∧ Hid (∀ s ∈ out.take j, s.f0 ≠ b) ∧ Below w.heap.size w wr) (fun i _ => out.length - (intOf i).toNat)
  case atStart => exact ⟨0, Nat.zero_le _, rfl, Lib.hid (by simp), Below.refl _ _⟩
  case round =>
    obtain ⟨j, hj, rfl, HT, hB⟩ := hrel
    by_cases hjl : j < out.length
    · obtain ⟨ad, B1, d1, e0, hy0, hy1, hl1, hi1⟩ := met_at HR.out hB j hjl rfl
      subst e0
      obtain ⟨s, hs⟩ : ∃ s, s = out[j] := ⟨_, rfl⟩
      rw [← hs] at hy0 hy1
      have HSJ := Lib.hid hs
      clear hs hl1 hi1
      have hcs := hcall (.agg #[.int .i64 s.f0, .slice B1 s.f1.length d1])
      by_cases e : s.f0 = b
      · have HD := Lib.hid (decide_eq_true e)
        clear e
        go_wp2_with ((with_reducible refine (ask_calls s b B1 d1 pb _ (blk_below HP.out hB)).mono ?_); rintro e w2 ⟨rfl, hb2⟩; rw [HD.out])
        go_ret
        refine ⟨?_, hB.trans (hb2.mono hB.size)⟩
        have : out.findIdx? (fun m => decide (m.f0 = b)) = some j := by
          rw [List.findIdx?_eq_some_iff_getElem]
          refine ⟨hjl, by rw [← HSJ.out]; exact HD.out, fun i hi => ?_⟩
          have := HT.out out[i] (List.mem_take_iff_getElem.2 ⟨i, by omega, rfl⟩)
          simpa using this
        unfold findM
        rw [this]; rfl
      · have HD := Lib.hid (decide_eq_false e)
        have HE := Lib.hid e
        clear e
        go_wp2_with ((with_reducible refine (ask_calls s b B1 d1 pb _ (blk_below HP.out hB)).mono ?_); rintro e w2 ⟨rfl, hb2⟩; rw [HD.out])
        go_roundw
        case rel => exact ⟨j + 1, by omega, by go_num, Lib.hid (by
          intro x hx
          rw [List.take_succ_eq_append_getElem hjl] at hx
          rcases List.mem_append.1 hx with h | h
          · exact HT.out x h
          · rw [List.mem_singleton.1 h, ← HSJ.out]; exact HE.out), hB.trans (hb2.mono hB.size)⟩
        case measure => simp [intOf]; omega
    · obtain rfl : j = out.length := by omega
      have HQ : Hid (findM b out = -1) := Lib.hid (by
        have : out.findIdx? (fun m => decide (m.f0 = b)) = none := by
          rw [List.findIdx?_eq_none_iff]
          intro x hx
          have := HT.out x (by rwa [List.take_length])
          simpa using this
        unfold findM
        rw [this])
      clear HT
      go_wp2
      go_ret
      exact ⟨by rw [HQ.out]; rfl, hB⟩
set_option maxHeartbeats 1000000 in
theorem contm_calls (b : Int) (pb : Nat) (A : Option Addr) (c : Nat) (out : List UMet) (hn : out.length ≤ 1000000) (hc : out.length ≤ c) (w : World) (hr : Kd.C k76 w A out.length out) (hp : w.heap[pb]? = some (.cells #[.int .i64 b] 3 (0, 0))) :
    Calls Tryd.prog 77 #[.slice A out.length c, .func (.func 78) #[] #[.pointer (some ⟨pb, 0, none⟩)]] w fun e w' => e = .returned (.bool (knownB b out)) ∧ Below w.heap.size w w' := by
  have Hk := Lib.hid (findM_known b out)
  go_enter Tryd.func77, Tryd.ntmps77
  go_wp2_with ((with_reducible refine (idxm_calls b pb A c out hn hc _ hr hp).mono ?_); rintro e w2 ⟨rfl, hb2⟩)
  go_ret
  exact ⟨by rw [← Hk.out]; rfl, hb2⟩
set_option maxHeartbeats 1000000 in
set_option maxRecDepth 100000 in
theorem known_calls (b : Int) (gb : Nat) (A : Option Addr) (c : Nat) (out : List UMet) (hn : out.length ≤ 1000000) (hc : out.length ≤ c) (w : World) (hr : Kd.C k76 w A out.length out) (hg : w.heap[gb]? = some (.cells #[.slice A out.length c] 73 (0, 0))) :
    Calls Tryd.prog 76 #[.int .i64 b, .pointer (some ⟨gb, 0, none⟩)] w fun e w' => e = .returned (.bool (knownB b out)) ∧ Below w.heap.size w w' := by
  have hg2 := blk_alloc hg (.cells #[.int .i64 b] 3)
  have hz0 : (w.alloc (.cells #[.int .i64 b] 3)).cell? ⟨gb, 0, none⟩ = some (.slice A out.length c) := (blk_cell hg2 0).trans rfl
  have HR := Lib.hid (Kd.C_alloc hr (.cells #[.int .i64 b] 3))
  clear hr hg hg2
  go_enter Tryd.func76, Tryd.ntmps76
  go_wp2_with fail
  refine (contm_calls b w.heap.size A c out hn hc _ HR.out (blk_new _ _)).mono ?_
  rintro e w2 ⟨rfl, hb2⟩
  have hB2 : Below w.heap.size w w2 := ((Below.refl _ _).alloc (Nat.le_refl _) _).trans (hb2.mono (below_alloc (Below.refl _ _) _).size)
  clear hz0 hb2
  go_wp2
  go_ret
  exact ⟨rfl, hB2⟩
end Go.Proofs.YtgdcnmpcfoomiaaDoor.G
end
section
set_option linter.unusedVariables false
set_option linter.unusedSimpArgs false
namespace Go.Proofs.YtgdcnmpcfoomiaaDoor.G
open Go Go.Proofs Go.RowKit Go.Proofs.YtgdcnmpcfoomiaaDoorW.PrintWords Go.Proofs.YtgdcnmpcfoomiaaDoorW.PrintLast Go.Proofs.YtgdcnmpcfoomiaaDoorW.PrintMore
theorem grown_owns (w : World) (base need old : Nat) (e : TypeId) (z : Value) (hzs : z.cells.size = 1) (xs : List Value) (hx : xs.length = need) (hbase : base ≤ w.heap.size) (h63 : need ≤ maxLen) :
    (w.drew.alloc (.cells (xs.toArray ++ Builtin.zeroCells z.cells (grownCap w need old e - need)) e)).ownsRow base e 1 (.slice (some ⟨w.heap.size, 0, none⟩) need (grownCap w need old e)) need xs := by
  have hge := grownCap_ge w need old e
  have hcm : grownCap w need old e ≤ maxLen := grownCap_le_maxLen w need old e h63
  refine ⟨by omega, .inr ⟨w.heap.size, _, _, rfl, hbase, heap_alloc_new w.drew _, hge, hcm, ?_, ?_⟩⟩
  · simp only [Array.size_append, List.size_toArray, size_zeroCells, hzs, hx]
    omega
  · simp only [Array.toList_append]
    rw [Nat.mul_one, ← hx]
    exact List.take_left
variable {P : Program} {ops : Array Oper} {o : Oper} {a : Act} {K : Act → World → Prop} {Q : Exit → Act → World → Prop}
theorem step_append_full {W : World} (base : Nat) (hw : Region.wanted o (yielded ops a.tmps) = true) (s x : Operand) (t e : TypeId) (z : Value)
    (ho : o.op = .call { callee := .builtin .append, args := #[s, x], argTypes := #[t, t] })
    (ht : P.underlying t = some (.slice e)) (hinfo : (P.info? e).map (fun i => (i.zero, i.size, i.bytes)) = some (some z, 1, 8)) (hz : z.cells.size = 1)
    (B : Option Addr) (l : List Int) (k : Int) (hs : a.eval s = .slice B l.length l.length) (hx : a.eval x = .slice (some ⟨W.heap.size, 0, none⟩) 1 1)
    (HC : Kd.C (Kd.int .i64) W B l.length l) (hl : l.length ≤ 1000000) (hbase : base ≤ W.heap.size)
    (h : ∀ v1 w1, (Kd.int .i64).R e w1 base (fun k => W.heap.size ≤ k) v1 (l ++ [k]) → Below W.heap.size W w1 → K (a.put o.dst v1) w1) :
    if Region.wanted o (yielded ops a.tmps) = true then Oper.wp P o a (W.alloc (.cells [Value.int .i64 k].toArray e)) K Q else K (a.put o.dst undef) (W.alloc (.cells [Value.int .i64 k].toArray e)) := by
  obtain ⟨i0, hi, hzz⟩ := Option.map_eq_some_iff.1 hinfo
  simp only [Prod.mk.injEq] at hzz
  obtain ⟨hz0, hz1, hz2⟩ := hzz
  rw [if_pos hw]
  have hnews : ∀ (j : Nat) (v : Value), [Value.int .i64 k][j]? = some v → (W.alloc (.cells [Value.int .i64 k].toArray e)).cell? ((⟨W.heap.size, 0, none⟩ : Addr).add j) = some v := by
    simpa using World.news_of_block (cs := [Value.int .i64 k].toArray) (t := e) (fr := (0, 0)) (heap_alloc_new W (.cells [Value.int .i64 k].toArray e))
  have hrun : ∃ old, (Builtin.append_ #[t, t] o.type #[.slice B l.length l.length, .slice (some ⟨W.heap.size, 0, none⟩) 1 1]).run P (W.alloc (.cells [Value.int .i64 k].toArray e)) =
      .ok (.slice (some ⟨(W.alloc (.cells [Value.int .i64 k].toArray e)).heap.size, 0, none⟩) (l.length + 1) (grownCap (W.alloc (.cells [Value.int .i64 k].toArray e)) (l.length + 1) old e))
        ((W.alloc (.cells [Value.int .i64 k].toArray e)).drew.alloc (.cells ((encs (Value.int .i64) (l ++ [k])).toArray ++ Builtin.zeroCells z.cells (grownCap (W.alloc (.cells [Value.int .i64 k].toArray e)) (l.length + 1) old e - (l.length + 1))) e)) := by
    rcases B with _ | b
    · have h0 : l = [] := by
        cases l with
        | nil => rfl
        | cons y l =>
          obtain ⟨ad, h, _⟩ := HC.2.2 (by simp)
          cases h
      subst h0
      have hr := run_append_nil (P := P) (W.alloc (.cells [Value.int .i64 k].toArray e)) t o.type e i0 z ht hi hz0 ⟨W.heap.size, 0, none⟩ 1 1 [Value.int .i64 k] (by rw [hz1]; rfl) hnews (by omega) (by omega) (by rw [hz2]; omega)
      exact ⟨0, hr⟩
    · have holds : ∀ (j : Nat) (v : Value), (encs (Value.int .i64) l)[j]? = some v → (W.alloc (.cells [Value.int .i64 k].toArray e)).cell? (b.add j) = some v := by
        intro j v hv
        have hj : j < l.length := by
          have := (List.getElem?_eq_some_iff.1 hv).1
          simpa [encs] using this
        obtain ⟨ad, e1, h2⟩ := HC.2.2 (by omega)
        cases e1
        obtain ⟨c, hc1, hc2, hc3⟩ := h2 j l[j] (List.getElem?_eq_getElem hj)
        have hcc : c = [Value.int .i64 l[j]] := hc2
        have h3 := hc3 0 (Value.int .i64 l[j]) (by rw [hcc]; rfl)
        have hv2 : v = Value.int .i64 l[j] := by
          have h4 : (encs (Value.int .i64) l)[j]? = some (Value.int .i64 l[j]) := by simp [encs, hj]
          rw [h4] at hv; exact (Option.some.inj hv).symm
        have h5 : W.cell? (b.add j) = some (Value.int .i64 l[j]) := by
          have : j * (Kd.int .i64).sz + 0 = j := by show j * 1 + 0 = j; omega
          rwa [this] at h3
        rw [hv2]
        exact (((Below.refl W.heap.size W).alloc (Nat.le_refl _) _).cell (World.block_lt_of_cell? W _ h5)).trans h5
      have hr := run_append_grow (P := P) (W.alloc (.cells [Value.int .i64 k].toArray e)) t o.type e i0 z ht hi hz0 b l.length l.length (encs (Value.int .i64) l) (by rw [hz1]; simp [encs]) holds ⟨W.heap.size, 0, none⟩ 1 1 [Value.int .i64 k] (by rw [hz1]; rfl) hnews (by omega) (by omega) (by rw [hz2]; exact growslice_fits (by omega) (by omega))
      refine ⟨l.length, hr.trans ?_⟩
      simp [encs]
  obtain ⟨old, hr⟩ := hrun
  unfold Oper.wp execOp
  simp only [ho, resolve, invoke, builtin, Sem.run_bind, Sem.run_pure, Result.andThen_ok, List.map_toArray, List.map_cons, List.map_nil, hs, hx, hr]
  have hs2 : W.heap.size ≤ (W.alloc (.cells [Value.int .i64 k].toArray e)).heap.size := by simp
  refine h _ _ (Kd.R_of_own ?_ ?_) ((((Below.refl _ _).alloc (Nat.le_refl _) _).drew).alloc hs2 _)
  · have := grown_owns (W.alloc (.cells [Value.int .i64 k].toArray e)) base (l.length + 1) old e z hz (encs (Value.int .i64) (l ++ [k])) (by simp [encs]) (by omega) (by simp only [maxLen]; omega)
    simpa using this
  · intro q hq
    have : (W.alloc (.cells [Value.int .i64 k].toArray e)).heap.size = q := by simpa [Value.ownBlock] using hq
    omega
end Go.Proofs.YtgdcnmpcfoomiaaDoor.G
end
section
set_option linter.unusedVariables false
set_option linter.unusedSimpArgs false
namespace Go.Proofs.YtgdcnmpcfoomiaaDoor.G
open Go Go.Proofs Go.RowKit Go.Proofs.YtgdcnmpcfoomiaaDoorW.PrintWords Go.Proofs.YtgdcnmpcfoomiaaDoorW.PrintLast Go.Proofs.YtgdcnmpcfoomiaaDoorW.PrintMore Go.Proofs.YtgdcnmpcfoomiaaDoor.Pure
structure InW (w : World) (gb : Nat) (A0 : Option Addr) (c0 : Nat) (l0 : List ByteArray) (A1 : Option Addr) (c1 : Nat) (l1 : List ByteArray) (a2 : Int) (A3 : Option Addr) (c3 : Nat) (l3 : List GRule) (Ao : Option Addr) (co : Nat) (out : List UMet) (W : World) : Prop where
  b : W.heap[w.heap.size]? = some (.cells #[.slice A0 l0.length c0, .slice A1 l1.length c1, .int .i64 a2, .slice A3 l3.length c3] 25 (0, 0))
  g : W.heap[gb]? = some (.cells #[.slice Ao out.length co] 73 (0, 0))
  lt : w.heap.size < gb
  row : Kd.R k76 76 W w.heap.size (fun _ => True) (.slice Ao out.length co) out
  bel : Below w.heap.size w W
theorem InW.step {w : World} {gb : Nat} {A0 : Option Addr} {c0 : Nat} {l0 : List ByteArray} {A1 : Option Addr} {c1 : Nat} {l1 : List ByteArray} {a2 : Int} {A3 : Option Addr} {c3 : Nat} {l3 : List GRule} {Ao : Option Addr} {co : Nat} {out : List UMet} {W W' : World} (h : InW w gb A0 c0 l0 A1 c1 l1 a2 A3 c3 l3 Ao co out W) (hb : Below W.heap.size W W') : InW w gb A0 c0 l0 A1 c1 l1 a2 A3 c3 l3 Ao co out W' :=
  ⟨blk_below h.b hb, blk_below h.g hb, h.lt, Kd.R_below h.row hb, h.bel.trans (hb.mono h.bel.size)⟩
theorem InW.cell {w : World} {gb : Nat} {A0 : Option Addr} {c0 : Nat} {l0 : List ByteArray} {A1 : Option Addr} {c1 : Nat} {l1 : List ByteArray} {a2 : Int} {A3 : Option Addr} {c3 : Nat} {l3 : List GRule} {Ao : Option Addr} {co : Nat} {out : List UMet} {W : World} (h : InW w gb A0 c0 l0 A1 c1 l1 a2 A3 c3 l3 Ao co out W) : W.cell? ⟨gb, 0, none⟩ = some (.slice Ao out.length co) := (blk_cell h.g 0).trans rfl
theorem toI_lt {l0 l1 : List ByteArray} {a2 : Int} {l3 : List GRule} (h : checkC nmB mkB l0 l1 a2 l3 = 0) : ∀ r ∈ l3, toI r < l0.length := by
  have hr : rulesC l0.length l1.length l3 = 0 := by
    unfold checkC at h
    split at h
    · exact absurd h (by decide)
    · split at h
      · exact absurd h (by decide)
      · split at h
        · exact absurd h (by decide)
        · split at h
          · exact absurd h (by decide)
          · exact h
  unfold rulesC at hr
  split at hr
  · rename_i r hf
    have := List.find?_some hf
    simp only [decide_eq_true_eq] at this
    exact absurd hr this
  · rename_i hf
    intro r hm
    have h1 := List.find?_eq_none.1 hf r hm
    have h2 : ruleC l0.length l1.length r = 0 := by simpa using h1
    unfold ruleC at h2
    split at h2
    · exact absurd h2 (by decide)
    · rename_i h3
      have h4 : r.f1.all (hasB l0.length l1.length) = true := by
        cases h5 : r.f1.all (hasB l0.length l1.length) with
        | true => rfl
        | false => exact absurd (Or.inr (Or.inr (by rw [h5]; decide))) h3
      unfold toI
      split
      · rename_i s hs
        have h5 : hasB l0.length l1.length s = true := List.all_eq_true.1 h4 s (by rw [hs]; simp)
        unfold hasB at h5
        split
        · omega
        · rename_i h6
          rw [if_neg h6] at h5
          exact of_decide_eq_true h5
      · omega
theorem info_int : (Tryd.prog.info? 3).map (fun i => (i.zero, i.size, i.bytes)) = some (some (.int .i64 0), 1, 8) := by kernel_rfl
theorem met_one (W : World) (base : Nat) (hb : base ≤ W.heap.size) (a : Int) : Kd.R k76 76 (W.alloc (.cells #[.int .i64 a, .slice none 0 0] 76)) base (fun _ => True) (.slice (some ⟨W.heap.size, 0, none⟩) 1 1) [⟨a, []⟩] := by
  have hrep : Reps (k76.M W base (fun _ => True)) k76.sz [(⟨a, []⟩ : UMet)] [.int .i64 a, .slice none 0 0] := Reps.snoc (ps := []) (cs := []) (c := [.int .i64 a, .slice none 0 0]) (Reps.none _ _) (k76_mkM W base _ (⟨a, []⟩ : UMet) (Kd.R_nil _ _ _ _ _)) rfl
  refine ⟨fun k hk => trivial, [.int .i64 a, .slice none 0 0], ?_, ?_⟩
  · have h2 := World.ownsRow_lit (base := base) (e := 76) (size := k76.sz) W #[.int .i64 a, .slice none 0 0] 1 hb (by decide) (by rfl)
    exact h2
  · refine hrep.imp_ (fun p c hp => k76.M_mono (fun k hk => ⟨trivial, fun he => ?_⟩) (Kd.M_below (k76.M_bound hp) (below_alloc (Below.refl _ _) _)))
    have h3 : k = W.heap.size := by simpa [Value.ownBlock] using he
    have := hk.2.2.1
    omega
set_option maxHeartbeats 8000000 in
set_option maxRecDepth 100000 in
theorem walk_calls (A0 : Option Addr) (c0 : Nat) (l0 : List ByteArray) (A1 : Option Addr) (c1 : Nat) (l1 : List ByteArray) (a2 : Int) (A3 : Option Addr) (c3 : Nat) (l3 : List GRule) (a : Int) (hok : gramOk l0 l1 a2 l3 = true) (w : World) (hG : Laid w) (hr0 : Kd.C Kd.string w A0 l0.length l0) (hc0 : l0.length ≤ c0) (hr1 : Kd.C Kd.string w A1 l1.length l1) (hc1 : l1.length ≤ c1) (hr3 : Kd.C k35 w A3 l3.length l3) (hc3 : l3.length ≤ c3) :
    Calls Tryd.prog 61 #[.agg #[.slice A0 l0.length c0, .slice A1 l1.length c1, .int .i64 a2, .slice A3 l3.length c3], .int .i64 a] w fun e w' => ∃ v0_ : Value, e = .returned (v0_) ∧ Kd.R k76 76 w' w.heap.size (fun _ => True) v0_ (walkC l0 l1 a2 l3 a) ∧ Below w.heap.size w w' := by
  have hu25 := Tryd.underlying25
  have hu76 := Tryd.underlying76
  have HOK := Lib.hid hok
  have HR0 := Lib.hid hr0
  have HR1 := Lib.hid hr1
  have HR3 := Lib.hid hr3
  have HG := Lib.hid hG
  have HCH := Lib.hid (show gram_Grammar_Check.f l0 l1 a2 l3 = some (checkC nmB mkB l0 l1 a2 l3) by unfold gram_Grammar_Check.f; rw [if_pos hok])
  obtain ⟨ch, hch⟩ : ∃ ch, ch = checkC nmB mkB l0 l1 a2 l3 := ⟨_, rfl⟩
  rw [← hch] at HCH
  have H0 : Below w.heap.size w (w.alloc (.cells #[.slice A0 l0.length c0, .slice A1 l1.length c1, .int .i64 a2, .slice A3 l3.length c3] 25)) := (Below.refl _ _).alloc (Nat.le_refl _) _
  have hbx := blk_new w (.cells #[.slice A0 l0.length c0, .slice A1 l1.length c1, .int .i64 a2, .slice A3 l3.length c3] 25)
  have hR0' := Lib.hid (Kd.C_below hr0 H0)
  have hR1' := Lib.hid (Kd.C_below hr1 H0)
  have hR3' := Lib.hid (Kd.C_below hr3 H0)
  have HG' := Lib.hid (hG.below H0)
  clear hr0 hr1 hr3 hG hok
  by_cases hne : ¬ ch = 0
  · have hne1 : (ch != 0) = true := bne_iff_ne.2 hne
    have hW : walkC l0 l1 a2 l3 a = [] := by unfold walkC; rw [if_neg (by rw [← hch]; exact fun h => hne h.1)]
    rw [hW]
    clear hch hne hbx
    go_enter Tryd.func61, Tryd.ntmps61
    go_wp2_with ((with_reducible refine (gram_Grammar_Check.calls A0 c0 l0 A1 c1 l1 a2 A3 c3 l3 ch _ HG'.out hR0'.out hc0 hR1'.out hc1 hR3'.out hc3 HCH.out).mono ?_); rintro e w2 ⟨rfl, hb2⟩; have hB2 := H0.trans (hb2.mono H0.size))
    go_ret
    exact ⟨_, rfl, Kd.R_nil _ _ _ _ _, hB2⟩
  replace hne := Decidable.not_not.1 hne
  have hne1 : (ch != 0) = false := by rw [hne]; rfl
  by_cases ha0 : a < 0
  · have ha1 : decide (a < 0) = true := decide_eq_true ha0
    have hW : walkC l0 l1 a2 l3 a = [] := by unfold walkC; rw [if_neg (by omega)]
    rw [hW]
    clear hch hne ha0 hbx
    go_enter Tryd.func61, Tryd.ntmps61
    go_wp2_with ((with_reducible refine (gram_Grammar_Check.calls A0 c0 l0 A1 c1 l1 a2 A3 c3 l3 ch _ HG'.out hR0'.out hc0 hR1'.out hc1 hR3'.out hc3 HCH.out).mono ?_); rintro e w2 ⟨rfl, hb2⟩; have hB2 := H0.trans (hb2.mono H0.size))
    go_ret
    exact ⟨_, rfl, Kd.R_nil _ _ _ _ _, hB2⟩
  have ha1 : decide (a < 0) = false := decide_eq_false ha0
  by_cases hal : a ≥ (l0.length : Int)
  · have hal1 : decide (a ≥ (l0.length : Int)) = true := decide_eq_true hal
    have hW : walkC l0 l1 a2 l3 a = [] := by unfold walkC; rw [if_neg (by omega)]
    rw [hW]
    clear hch hne ha0 hal
    go_enter Tryd.func61, Tryd.ntmps61
    go_wp2_with ((with_reducible refine (gram_Grammar_Check.calls A0 c0 l0 A1 c1 l1 a2 A3 c3 l3 ch _ HG'.out hR0'.out hc0 hR1'.out hc1 hR3'.out hc3 HCH.out).mono ?_); rintro e w2 ⟨rfl, hb2⟩; have hB2 := H0.trans (hb2.mono H0.size); have hbx2 := blk_below hbx hb2; have hz0 : w2.cell? ⟨w.heap.size, 0, none⟩ = some (.slice A0 l0.length c0) := (blk_cell hbx2 0).trans rfl)
    go_ret
    exact ⟨_, rfl, Kd.R_nil _ _ _ _ _, hB2⟩
  have hal1 : decide (a ≥ (l0.length : Int)) = false := decide_eq_false hal
  have HW := Lib.hid (show walkC l0 l1 a2 l3 a = wOut l3 (l0.length + 1) 0 [⟨a, []⟩] by unfold walkC; rw [if_pos (by omega)])
  have HA := Lib.hid (show 0 ≤ a ∧ a < l0.length by omega)
  have HFIT := Lib.hid (toI_lt (hch.symm.trans hne))
  clear hch hne ha0 hal
  rw [HW.out]
  generalize hrs : wOut l3 (l0.length + 1) 0 [⟨a, []⟩] = rs
  have HRS := Lib.hid hrs
  clear hrs HW
  go_enter Tryd.func61, Tryd.ntmps61
  go_wp2_with ((with_reducible refine (gram_Grammar_Check.calls A0 c0 l0 A1 c1 l1 a2 A3 c3 l3 ch _ HG'.out hR0'.out hc0 hR1'.out hc1 hR3'.out hc3 HCH.out).mono ?_); rintro e w2 ⟨rfl, hb2⟩; have hB2 := H0.trans (hb2.mono H0.size); have hbx2 := blk_below hbx hb2; have hz0 : w2.cell? ⟨w.heap.size, 0, none⟩ = some (.slice A0 l0.length c0) := (blk_cell hbx2 0).trans rfl)
  have hst : InW w (w2.heap.size + 1) A0 c0 l0 A1 c1 l1 a2 A3 c3 l3 (some ⟨w2.heap.size, 0, none⟩) 1 [⟨a, []⟩] ((w2.alloc (.cells #[.int .i64 a, .slice none 0 0] 76)).alloc (.cells #[.slice (some ⟨w2.heap.size, 0, none⟩) 1 1] 73)) := by
    have hs : w.heap.size < w2.heap.size := Nat.lt_of_lt_of_le (by simp) hb2.size
    have hk := blk_new (w2.alloc (.cells #[.int .i64 a, .slice none 0 0] 76)) (.cells #[.slice (some ⟨w2.heap.size, 0, none⟩) 1 1] 73)
    exact ⟨blk_alloc (blk_alloc hbx2 _) _, by simpa using hk, by omega, Kd.R_alloc (met_one w2 w.heap.size hB2.size a) _, (hB2.alloc hB2.size _).alloc (by have := hB2.size; simp; omega) _⟩
  generalize (w2.alloc (.cells #[.int .i64 a, .slice none 0 0] 76)).alloc (.cells #[.slice (some ⟨w2.heap.size, 0, none⟩) 1 1] 73) = w3 at *
  generalize hgb : w2.heap.size + 1 = gb at *
  generalize hab : w2.heap.size = ab at *
  clear hgb hz0 hbx2 hB2 hb2 hbx hR0' hR1' hR3' HG' HCH HG hne1 ha1 hal1 H0
  have HI0 := Lib.hid hst
  have hv0 := Lib.hid (show WInv l0.length [⟨a, []⟩] from ⟨by simp, fun m hm => by rw [List.mem_singleton.1 hm]; exact HA.out, fun j m hj => by
    cases j with
    | zero => cases hj; simp
    | succ j => simp at hj⟩)
  clear hst
  go_loopg [7] (l0.length + 1) (fun q s7 wr => ∃ (i : Nat) (Ao : Option Addr) (co : Nat) (out : List UMet), s7 = .int .i64 i ∧ Hid (i + q = l0.length + 1) ∧ Hid (wOut l3 q i out = rs) ∧ Hid (WInv l0.length out) ∧ Hid (InW w gb A0 c0 l0 A1 c1 l1 a2 A3 c3 l3 Ao co out wr))
  case atStart => exact ⟨0, _, _, _, rfl, Lib.hid (by omega), HRS, hv0, HI0⟩
  case round =>
    clear HI0 hv0 HRS
    obtain ⟨i, Ao, co, out, rfl, HQ, HRS, HV, HI⟩ := hrel
    obtain ⟨hn, hnc, hC⟩ := Kd.R_reads' HI.out.row
    have hnb : out.length ≤ l0.length := HV.out.len
    have hz0 := HI.out.cell
    by_cases hlt : i < out.length
    · cases gk with
      | zero => exact absurd HQ.out (by omega)
      | succ f =>
        obtain ⟨ad, B1, d1, e0, hx0, hx1, hl1, hi1⟩ := met_at hC (Below.refl _ _) i hlt rfl
        subst e0
        obtain ⟨m, hm⟩ : ∃ m, m = out[i] := ⟨_, rfl⟩
        rw [← hm] at hx0 hx1 hl1 hi1
        have HM := Lib.hid hm
        have HRS2 := Lib.hid (show wOut l3 f (i + 1) (wIn l3 m.f1 (idxT m.f0 l3 l3.length) out) = rs by have := HRS.out; rwa [wOut, List.getElem?_eq_getElem hlt, ← hm] at this)
        have hp0 : 0 ≤ (i : Int) := Int.natCast_nonneg _
        have hq0 : (i : Int) < (out.length : Int) := by omega
        have HC1 := Lib.hid hi1
        clear hm hC hn hi1
        go_wp2_with fail
        have hI1 := HI.out.step (Below.refl wr.heap.size wr).drew
        have hz1 : wr.drew.cell? ⟨gb, 0, none⟩ = some (.slice (some ad) out.length co) := hI1.cell
        have hy0 : wr.drew.cell? (ad.add (i * 2)) = some (.int .i64 m.f0) := hx0
        have hb0 : wr.drew.cell? ⟨w.heap.size, 0, none⟩ = some (.slice A0 l0.length c0) := (blk_cell hI1.b 0).trans rfl
        have hb1 : wr.drew.cell? ⟨w.heap.size, 1, none⟩ = some (.slice A1 l1.length c1) := (blk_cell hI1.b 1).trans rfl
        have hb2 : wr.drew.cell? ⟨w.heap.size, 2, none⟩ = some (.int .i64 a2) := (blk_cell hI1.b 2).trans rfl
        have hb3 : wr.drew.cell? ⟨w.heap.size, 3, none⟩ = some (.slice A3 l3.length c3) := (blk_cell hI1.b 3).trans rfl
        have hln : l3.length ≤ 1000000 := by
          have := HOK.out
          simp only [gramOk, Bool.and_eq_true, decide_eq_true_eq] at this
          omega
        obtain ⟨KO, hKO⟩ := Pure.Ev.out (gof_f l0 l1 a2 l3 m.f0 hln)
        have HOF := Lib.hid (hKO KO (Nat.le_refl _))
        clear hKO hx0 hx1 hz0
        generalize hks : idxT m.f0 l3 l3.length = ks at *
        have HKS := Lib.hid hks
        have hkl : ks.length ≤ 1000000 := by rw [← hks]; exact Nat.le_trans (idxT_le _ _ _) hln
        clear hks
        go_region_law
          (go_simp; go_at_call 20; (with_reducible refine (gram_Grammar_Of.calls KO A0 c0 l0 A1 c1 l1 a2 A3 c3 l3 m.f0 ks _ (Kd.C_below HR0.out hI1.bel) hc0 (Kd.C_below HR1.out hI1.bel) hc1 (Kd.C_below HR3.out hI1.bel) hc3 HOF.out).mono ?_); rintro e w4 ⟨v5, rfl, hR5, hb5⟩; obtain ⟨A5, c5, e5⟩ := Kd.R_slice hR5; subst e5)
        all_goals
          have hI4 := Lib.hid (hI1.step hb5)
          have hK4 := Lib.hid (Kd.R_lower hR5 hI1.bel.size)
          clear hR5 hb5 hI1 hz1 hy0 hb0 hb1 hb2 hb3 HI HC1
          simp only [List.getElem_toArray, List.getElem_cons_succ, List.getElem_cons_zero, Act.put, List.setIfInBounds_toArray, List.set_cons_succ, List.set_cons_zero]
          go_wp2
          have hcall := fun (u : Value) (W : World) => (show Sem.run Tryd.prog (callFunc 76 #[u, .pointer (some ⟨gb, 0, none⟩)]) W = .ok (.enter 76 #[u, .pointer (some ⟨gb, 0, none⟩)]) W by kernel_rfl)
          go_loopg [50] ks.length (fun q2 s50 wx => ∃ (j : Nat) (Ao2 : Option Addr) (co2 : Nat) (out2 : List UMet), s50 = .int .i64 j ∧ Hid (j + q2 = ks.length) ∧ Hid (wOut l3 f (i + 1) (wIn l3 m.f1 (ks.drop j) out2) = rs) ∧ Hid (WInv l0.length out2) ∧ Hid (∃ h : i < out2.length, out2[i] = m) ∧ Hid (InW w gb A0 c0 l0 A1 c1 l1 a2 A3 c3 l3 Ao2 co2 out2 wx) ∧ Hid (Kd.R (Kd.int .i64) 3 wx w.heap.size (fun _ => True) (.slice A5 ks.length c5) ks))
          case atStart => exact ⟨0, _, _, _, rfl, Lib.hid (by omega), HRS2, HV, Lib.hid ⟨hlt, HM.out.symm⟩, hI4, hK4⟩
          case round =>
            clear hI4 hK4 HRS2 HV HRS
            obtain ⟨j, Ao2, co2, out2, rfl, HQ2, HRS2, HV, HMI, HI, HK⟩ := hrel
            by_cases hjl : j < ks.length
            · obtain ⟨ad5, e5, hx5⟩ := Kd.at_int (Kd.R_reads' HK.out).2.2 (j : Int) (Int.natCast_nonneg _) (by omega)
              subst e5
              obtain ⟨t, ht, et, -, -⟩ := idxT_mem m.f0 l3 l3.length ks[j] (Nat.le_refl _) (by rw [HKS.out]; exact List.getElem_mem _)
              have hrk : rd ks (j : Int) = (t : Int) := by rw [rd_at ks j hjl, et]
              rw [hrk, Int.toNat_natCast] at hx5
              have hwi : wIn l3 m.f1 (ks.drop j) out2 = wIn l3 m.f1 (ks.drop (j + 1)) (wPut l3 m.f1 (t : Int) out2) := by
                rw [List.drop_eq_getElem_cons hjl, wIn, et]
              have HRS3 := HRS2.out
              rw [hwi] at HRS3
              replace HRS3 := Lib.hid HRS3
              obtain ⟨ad6, A6, c6, e6, hx60, hx61, hc6, hr6⟩ := at_T35 HR3.out (t : Int) (by omega) (by omega)
              subst e6
              obtain ⟨r, hr⟩ : ∃ r, r = l3[t] := ⟨_, rfl⟩
              have hrd : rd_T35 l3 (t : Int) = r := by rw [hr, rd_T35, Int.toNat_natCast, List.getD_eq_getElem?_getD, List.getElem?_eq_getElem ht]; rfl
              rw [hrd] at hx60 hx61 hc6 hr6
              rw [Int.toNat_natCast] at hx60 hx61
              replace hx60 := (HI.out.bel.cell (blk_lt_ hx60)).trans hx60
              replace hx61 := (HI.out.bel.cell (blk_lt_ hx61)).trans hx61
              have hro : ruleOk r = true := by
                have := HOK.out
                simp only [gramOk, Bool.and_eq_true] at this
                exact List.all_eq_true.1 this.2 r (by rw [hr]; exact List.getElem_mem _)
              have HTO := Lib.hid (to_f r hro)
              have HPUT := Lib.hid (show wPut l3 m.f1 (t : Int) out2 = if 0 ≤ toI r ∧ knownB (toI r) out2 = false then out2 ++ [⟨toI r, m.f1 ++ [(t : Int)]⟩] else out2 by unfold wPut; rw [Int.toNat_natCast, List.getElem?_eq_getElem ht, ← hr])
              have HR6 := Lib.hid hr6
              have htl : (t : Int) < (l3.length : Int) := by omega
              have ht0 : 0 ≤ (t : Int) := Int.natCast_nonneg _
              have hj0 : 0 ≤ (j : Int) := Int.natCast_nonneg _
              have hjl2 : (j : Int) < (ks.length : Int) := by omega
              have hz3 : wr.cell? ⟨w.heap.size, 3, none⟩ = some (.slice (some ad6) l3.length c3) := (blk_cell HI.out.b 3).trans rfl
              have HRR := Lib.hid hr
              have HJ := Lib.hid hjl
              have HOL := Lib.hid HV.out.len
              have HL0 := Lib.hid (show l0.length ≤ 1000000 by
                have := HOK.out
                simp only [gramOk, Bool.and_eq_true, decide_eq_true_eq] at this
                omega)
              clear hwi hrk et hrd hr6 hro hr
              generalize hto : toI r = b at *
              have HTB := Lib.hid hto
              clear hto
              by_cases hb0 : 0 ≤ b
              · have hb1 : decide (b ≥ 0) = true := decide_eq_true hb0
                obtain ⟨kn, hkn⟩ : ∃ kn, kn = knownB b out2 := ⟨_, rfl⟩
                cases kn with
                | true =>
                  have HKN := Lib.hid hkn
                  clear hkn hb0
                  go_wp2_with (first | ((with_reducible refine (units_to.calls r.f0 A6 c6 r.f1 b _ (Kd.C_below HR6.out HI.out.bel) hc6 HTO.out).mono ?_); rintro e w5 ⟨rfl, hb5⟩; have hI5 := HI.out.step hb5; have hK5 := Kd.R_below HK.out hb5) | ((with_reducible refine (known_calls b gb Ao2 co2 out2 (by have := HOL.out; have := HL0.out; omega) (Kd.R_reads' hI5.row).2.1 _ (Kd.R_reads' hI5.row).2.2 hI5.g).mono ?_); rintro e w6 ⟨rfl, hb6⟩; rw [← HKN.out]))
                  go_roundg (gk - 1)
                  case measure => have := HQ2.out; have := HJ.out; omega
                  case rel => exact ⟨j + 1, Ao2, co2, out2, by go_num, Lib.hid (by have := HQ2.out; have := HJ.out; omega), Lib.hid (by have := HRS3.out; rwa [HPUT.out, if_neg (by rw [← HKN.out]; simp)] at this), HV, HMI, Lib.hid (hI5.step hb6), Lib.hid (Kd.R_below hK5 hb6)⟩
                | false =>
                  have HKN := Lib.hid hkn
                  have HPF := Lib.hid (show wPut l3 m.f1 (t : Int) out2 = out2 ++ [⟨b, m.f1 ++ [(t : Int)]⟩] by rw [HPUT.out, if_pos ⟨hb0, hkn.symm⟩])
                  clear hkn hb0
                  go_wp2_with (first | ((with_reducible refine (units_to.calls r.f0 A6 c6 r.f1 b _ (Kd.C_below HR6.out HI.out.bel) hc6 HTO.out).mono ?_); rintro e w5 ⟨rfl, hb5⟩; have hI5 := HI.out.step hb5; have hK5 := Kd.R_below HK.out hb5) | ((with_reducible refine (known_calls b gb Ao2 co2 out2 (by have := HOL.out; have := HL0.out; omega) (Kd.R_reads' hI5.row).2.1 _ (Kd.R_reads' hI5.row).2.2 hI5.g).mono ?_); rintro e w6 ⟨rfl, hb6⟩; rw [← HKN.out]))
                  have hI6 := hI5.step hb6
                  have hK6 := Kd.R_below hK5 hb6
                  obtain ⟨hlt2, hmm⟩ := HMI.out
                  obtain ⟨adx, Bx, dx, ex, hq0, hq1, hql, hqi⟩ := met_at (Kd.R_reads' hI6.row).2.2 (Below.refl _ _) i hlt2 rfl
                  subst ex
                  rw [hmm] at hq0 hq1 hql hqi
                  have hJ := hI6.step (Below.refl w6.heap.size w6).drew
                  have HKJ := Lib.hid (Kd.R_drew hK6)
                  have hz9 : w6.drew.cell? ⟨gb, 0, none⟩ = some (.slice (some adx) out2.length co2) := hJ.cell
                  have hq9 : w6.drew.cell? ⟨(adx.add (i * 2)).block, (adx.add (i * 2)).off + 1, none⟩ = some (.slice Bx m.f1.length dx) := hq1
                  have hJ1 := hJ.step (W' := w6.drew.alloc (.cells #[.int .i64 (t : Int)] 3)) ((Below.refl _ _).alloc (Nat.le_refl _) _)
                  have hz10 := hJ1.cell
                  have hq10 : (w6.drew.alloc (.cells #[.int .i64 (t : Int)] 3)).cell? ⟨(adx.add (i * 2)).block, (adx.add (i * 2)).off + 1, none⟩ = some (.slice Bx m.f1.length dx) := (((Below.refl w6.drew.heap.size w6.drew).alloc (Nat.le_refl _) (.cells #[.int .i64 (t : Int)] 3)).cell (World.block_lt_of_cell? _ _ hq9)).trans hq9
                  have hz14 : (w6.alloc (.cells #[.int .i64 (t : Int)] 3)).drew.cell? ⟨gb, 0, none⟩ = some (.slice (some adx) out2.length co2) := hz10
                  have hq14 : (w6.alloc (.cells #[.int .i64 (t : Int)] 3)).drew.cell? ⟨(adx.add (i * 2)).block, (adx.add (i * 2)).off + 1, none⟩ = some (.slice Bx m.f1.length dx) := hq10
                  have HCX := Lib.hid (show Kd.C (Kd.int .i64) w6.drew Bx m.f1.length m.f1 from Kd.C_below hqi (Below.refl w6.heap.size w6).drew)
                  have hi0 : 0 ≤ (i : Int) := Int.natCast_nonneg _
                  have hi1 : (i : Int) < (out2.length : Int) := by omega
                  have HCL := Lib.hid (show m.f1.length ≤ 1000000 by
                    have h1 := HV.out.ch i m (by rw [List.getElem?_eq_getElem hlt2, hmm])
                    have := HOL.out; have := HL0.out; omega)
                  have HLT2 := Lib.hid hlt2
                  have hno : out2.length ≤ 1000000 := Nat.le_trans HOL.out HL0.out
                  clear hq0 hq1 hqi hI6 hK6 hI5 hK5 hb5 hb6 hmm hx5 hx60 hx61 hz3
                  have hsz : w.heap.size ≤ w6.drew.heap.size := hJ.bel.size
                  go_region_law
                    (first | (refine step_append_full (W := w6.drew) w.heap.size (by rfl) (.tmp 77) (.tmp 79) 36 3 (.int .i64 0) (by rfl) Tryd.underlying36 info_int (by rfl) Bx m.f1 (t : Int) (by rfl) (by rfl) HCX.out HCL.out hsz ?_; intro v7 w7 ho7 hb7; obtain ⟨A7, c7, e7⟩ := Kd.R_slice ho7; subst e7; have hJ7 := hJ.step hb7; have hz11 := hJ7.cell; have hq11 := (hb7.cell (World.block_lt_of_cell? _ _ hq9)).trans hq9; have hP : k76.M w7 w.heap.size (fun k => True ∧ some k ≠ (Value.slice (some adx) out2.length co2).ownBlock) (⟨b, m.f1 ++ [(t : Int)]⟩ : UMet) [.int .i64 b, .slice A7 (m.f1 ++ [(t : Int)]).length c7] := k76_mkM w7 w.heap.size _ (⟨b, m.f1 ++ [(t : Int)]⟩ : UMet) (Kd.R_mono (Kd.R_apart' ho7 (Kd.R_typed hJ7.row) (by decide)) (fun _ h => ⟨trivial, h.2⟩)); rw [List.length_append, List.length_singleton] at hP; have hJ8 := hJ7.step (W' := w7.alloc (.cells #[.int .i64 b, .slice A7 (m.f1.length + 1) c7] 76)) ((Below.refl _ _).alloc (Nat.le_refl _) _); have hz12 := hJ8.cell) | (refine Kd.R_append_step k76 (w0 := w) (W := w7) w.heap.size (by rfl) (.tmp 68) (.tmp 82) 73 76 (.agg #[.int .i64 0, .slice none 0 0]) 32 (by rfl) Tryd.underlying73 info_met (by rfl) (by decide) (by omega) (.slice (some adx) out2.length co2) out2 (⟨b, m.f1 ++ [(t : Int)]⟩ : UMet) [.int .i64 b, .slice A7 (m.f1.length + 1) c7] (fun _ => True) (fun k => True ∧ some k ≠ (Value.slice (some adx) out2.length co2).ownBlock) (by rfl) (by rfl) hP (fun _ hk => hk) (fun _ _ => trivial) hJ7.row hJ7.bel hJ7.bel.size (by omega) ?_; intro v9 w9 ho9 hb9 hg9 hat9; obtain ⟨A9, c9, e9⟩ := Kd.R_slice ho9; subst e9; have hg10 := blk_grown hJ7.g hg9 (Kd.R_ne hJ7.row hJ7.g (by decide)); have hz13 : w9.cell? ⟨gb, 0, none⟩ = some (.slice (some adx) out2.length co2) := (blk_cell hg10 0).trans rfl; have hf13 := blk_frozen hg10 0; have hb10 := blk_grown hJ7.b hg9 (Kd.R_ne hJ7.row hJ7.b (by decide)); have hK9 := Kd.R_grown (Kd.R_apart' (Kd.R_below HKJ.out hb7) (Kd.R_typed hJ7.row) (by decide)) hg9 (fun _ hk => hk.2)))
                  all_goals
                    rw [List.length_append, List.length_singleton] at ho9
                    have hIn : InW w gb A0 c0 l0 A1 c1 l1 a2 (some ad6) c3 l3 A9 c9 (out2 ++ [⟨b, m.f1 ++ [(t : Int)]⟩]) (w9.setCell ⟨gb, 0, none⟩ (.slice A9 (out2.length + 1) c9)) := by
                      have hgl := hJ7.lt
                      refine ⟨blk_far hb10 (Nat.ne_of_lt hgl) _, ?_, hgl, ?_, hb9.setCell (Nat.le_of_lt hgl) _⟩
                      · rw [List.length_append, List.length_singleton]; exact blk_put (cs := #[.slice (some adx) out2.length co2]) hg10 0 _ rfl
                      · rw [List.length_append, List.length_singleton]; exact Kd.R_mono (Kd.R_far (p := ⟨gb, 0, none⟩) (Kd.R_types ho9 hg10 (by decide)) (fun _ hk => hk.2) _) (fun _ _ => trivial)
                    have hKn : Kd.R (Kd.int .i64) 3 (w9.setCell ⟨gb, 0, none⟩ (.slice A9 (out2.length + 1) c9)) w.heap.size (fun _ => True) (.slice (some ad5) ks.length c5) ks := Kd.R_mono (Kd.R_far (p := ⟨gb, 0, none⟩) (Kd.R_types hK9 hg10 (by decide)) (fun _ hk => hk.2) _) (fun _ _ => trivial)
                    replace hIn := Lib.hid hIn
                    replace hKn := Lib.hid hKn
                    clear ho9 hb9 hg9 hat9 hg10 hz13 hf13 hb10 hK9 hP hJ8 hz12 hq11 hz11 hJ7 ho7 hb7 hJ hz9 hq9 hJ1 hz10 hq10 hz14 hq14
                    try simp only [List.getElem_toArray, List.getElem_cons_succ, List.getElem_cons_zero, Act.put, List.setIfInBounds_toArray, List.set_cons_succ, List.set_cons_zero]
                    go_wp2
                    go_roundg (gk - 1)
                    case measure => have := HQ2.out; have := HJ.out; omega
                    case rel =>
                      obtain ⟨hinv, hle⟩ := wPut_inv (l3 := l3) HFIT.out HV.out (c := m.f1) (k := (t : Int)) (by
                        have h1 := HV.out.ch i m (by have := HMI.out; obtain ⟨h, e⟩ := this; rw [List.getElem?_eq_getElem h, e])
                        have := HLT2.out; omega)
                      rw [HPF.out] at hinv
                      refine ⟨j + 1, A9, c9, out2 ++ [⟨b, m.f1 ++ [(t : Int)]⟩], by go_num, Lib.hid (by have := HQ2.out; have := HJ.out; omega), Lib.hid (by have := HRS3.out; rwa [HPF.out] at this), Lib.hid hinv, Lib.hid ?_, hIn, hKn⟩
                      obtain ⟨h, e⟩ := HMI.out
                      exact ⟨by rw [List.length_append]; omega, by rw [List.getElem_append_left h]; exact e⟩
              · have HB0 := Lib.hid hb0
                have hb1 : decide (b ≥ 0) = false := decide_eq_false hb0
                go_wp2_with (first | ((with_reducible refine (units_to.calls r.f0 A6 c6 r.f1 b _ (Kd.C_below HR6.out HI.out.bel) hc6 HTO.out).mono ?_); rintro e w5 ⟨rfl, hb5⟩; have hI5 := HI.out.step hb5; have hK5 := Kd.R_below HK.out hb5) | ((with_reducible refine (known_calls b gb Ao2 co2 out2 (by have := HOL.out; have := HL0.out; omega) (Kd.R_reads' hI5.row).2.1 _ (Kd.R_reads' hI5.row).2.2 hI5.g).mono ?_); rintro e w6 ⟨rfl, hb6⟩; rw [← HKN.out]))
                go_roundg (gk - 1)
                case measure => have := HQ2.out; have := HJ.out; omega
                case rel => exact ⟨j + 1, Ao2, co2, out2, by go_num, Lib.hid (by have := HQ2.out; have := HJ.out; omega), Lib.hid (by have := HRS3.out; rwa [HPUT.out, if_neg (fun h => by have := HB0.out; have := h.1; omega)] at this), HV, HMI, Lib.hid hI5, Lib.hid hK5⟩
            · obtain rfl : j = ks.length := by have := HQ2.out; omega
              have HRSX := Lib.hid (show wOut l3 f (i + 1) out2 = rs by have := HRS2.out; rwa [List.drop_eq_nil_of_le (by omega), wIn] at this)
              have HL0 : l0.length ≤ 1000000 := by
                have := HOK.out
                simp only [gramOk, Bool.and_eq_true, decide_eq_true_eq] at this
                omega
              clear hjl
              go_wp2
              go_roundg f
              case measure => omega
              case rel => exact ⟨i + 1, Ao2, co2, out2, by go_num, Lib.hid (by have := HQ.out; omega), HRSX, HV, HI⟩
    · have HRSX := Lib.hid (show out = rs by
        have := HRS.out
        cases gk with
        | zero => simpa [wOut] using this
        | succ f => rwa [wOut, List.getElem?_eq_none (by omega)] at this)
      have hnl : ¬ ((i : Int) < (out.length : Int)) := by omega
      clear hC hn hnc hlt
      go_wp2
      go_ret
      rw [← HRSX.out]
      exact ⟨_, rfl, HI.out.row, HI.out.bel⟩
end Go.Proofs.YtgdcnmpcfoomiaaDoor.G
end
section
namespace Go.Proofs.YtgdcnmpcfoomiaaDoor.G
open Go.RowKit Go.Proofs.YtgdcnmpcfoomiaaDoorW.PrintWords Go.Proofs.YtgdcnmpcfoomiaaDoorW.PrintLast Go.Proofs.YtgdcnmpcfoomiaaDoorW.PrintMore
attribute [local go_sem] max2_int min2_int max_two min_two max_three min_three max_four min_four
attribute [local go_sem] Go.Proofs.YtgdcnmpcfoomiaaDoorOwn.isSome_setCell
set_option linter.unusedVariables false
set_option linter.unusedSimpArgs false
def units_walk.f (l0_0 : List ByteArray) (l0_1 : List ByteArray) (a0_2 : Int) (l0_3 : List GRule) (a1 : Int) : Option (List S76) := if gramOk l0_0 l0_1 a0_2 l0_3 = true then some (walkC l0_0 l0_1 a0_2 l0_3 a1) else none
theorem units_walk.calls (A0_0 : Option Addr) (c0_0 : Nat) (l0_0 : List ByteArray) (A0_1 : Option Addr) (c0_1 : Nat) (l0_1 : List ByteArray) (a0_2 : Int) (A0_3 : Option Addr) (c0_3 : Nat) (l0_3 : List GRule) (a1 : Int) (r : List S76) (w : World) (hG : Laid w) (hr0_0 : Kd.C Kd.string w A0_0 l0_0.length l0_0) (hc0_0 : l0_0.length ≤ c0_0) (hr0_1 : Kd.C Kd.string w A0_1 l0_1.length l0_1) (hc0_1 : l0_1.length ≤ c0_1) (hr0_3 : Kd.C k35 w A0_3 l0_3.length l0_3) (hc0_3 : l0_3.length ≤ c0_3) (h : units_walk.f l0_0 l0_1 a0_2 l0_3 a1 = some r) :
  Calls Tryd.prog 61 #[.agg #[.slice A0_0 l0_0.length c0_0, .slice A0_1 l0_1.length c0_1, .int .i64 a0_2, .slice A0_3 l0_3.length c0_3], .int .i64 a1] w fun e w' => ∃ v0_ : Value, e = .returned (v0_) ∧ Kd.R k76 76 w' w.heap.size (fun _ => True) v0_ r ∧ Below w.heap.size w w' := by
 unfold units_walk.f at h
 split at h
 ·rename_i hok
  obtain rfl := Option.some.inj h
  exact walk_calls A0_0 c0_0 l0_0 A0_1 c0_1 l0_1 a0_2 A0_3 c0_3 l0_3 a1 hok w hG hr0_0 hc0_0 hr0_1 hc0_1 hr0_3 hc0_3
 ·cases h
end Go.Proofs.YtgdcnmpcfoomiaaDoor.G
end
