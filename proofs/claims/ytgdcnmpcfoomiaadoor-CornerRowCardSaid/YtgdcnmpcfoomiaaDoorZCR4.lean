/- A statement of the set, proved for every input: part 5 of 6 of its proof, packed by a program of this session out of the texts GRef024, GramO, RefC, GLaw02May. -/
import Derived.Test.YtgdcnmpcfoomiaaDoorZCR3
import Derived.Deep.RegionLaw
import Derived.Laws.Rows
section
namespace Go.Proofs.YtgdcnmpcfoomiaaDoor.G
open Go.RowKit Go.Proofs.YtgdcnmpcfoomiaaDoorW.PrintWords Go.Proofs.YtgdcnmpcfoomiaaDoorW.PrintLast Go.Proofs.YtgdcnmpcfoomiaaDoorW.PrintMore
attribute [local go_sem] max2_int min2_int max_two min_two max_three min_three max_four min_four
attribute [local go_sem] Go.Proofs.YtgdcnmpcfoomiaaDoorOwn.isSome_setCell
set_option linter.unusedVariables false
set_option linter.unusedSimpArgs false
mutual
def wickerref02_Check.j0 : Nat → Bool → List ByteArray → List ByteArray → Int → List (S38) → Option (Int)
 | 0, _, _, _, _, _ => none
 | k + 1, x30, x213000, x213001, x213002, x213003 => if x30 = true then (some 11) else (wickerref02_Check.l0 k 0 x213000 x213001 x213002 x213003)
def wickerref02_Check.l0 : Nat → Int → List ByteArray → List ByteArray → Int → List (S38) → Option (Int)
 | 0, _, _, _, _, _ => none
 | k + 1, x3, x213000, x213001, x213002, x213003 => if x3 < (x213000.length : Int) then (if 0 ≤ x3 then ((wickerref01_Name.f k (rdOf ByteArray.empty x213000 x3)).bind fun t214 => (if t214 = true then (wickerref02_Check.l0 k (wrap64 (x3 + 1)) x213000 x213001 x213002 x213003) else (some 1))) else (none)) else (wickerref02_Check.l1 k 0 x213000 x213001 x213002 x213003)
def wickerref02_Check.l1 : Nat → Int → List ByteArray → List ByteArray → Int → List (S38) → Option (Int)
 | 0, _, _, _, _, _ => none
 | k + 1, x4, x213000, x213001, x213002, x213003 => if x4 < (x213001.length : Int) then (if 0 ≤ x4 then ((wickerref01_Mark.f (rdOf ByteArray.empty x213001 x4)).bind fun t216 => (if t216 = true then (wickerref02_Check.l1 k (wrap64 (x4 + 1)) x213000 x213001 x213002 x213003) else (some 1))) else (none)) else ((wickerref02_twice.f k x213000).bind fun t217 => (if t217 = true then (wickerref02_Check.j3 k true x213000 x213001 x213002 x213003) else ((wickerref02_twice.f k x213001).bind fun t218 => (wickerref02_Check.j3 k t218 x213000 x213001 x213002 x213003))))
def wickerref02_Check.j3 : Nat → Bool → List ByteArray → List ByteArray → Int → List (S38) → Option (Int)
 | 0, _, _, _, _, _ => none
 | k + 1, x66, x213000, x213001, x213002, x213003 => if x66 = true then (some 2) else (if x213002 < 0 then (wickerref02_Check.j4 k true x213000 x213001 x213002 x213003) else (wickerref02_Check.j4 k (decide (x213002 ≥ (x213000.length : Int))) x213000 x213001 x213002 x213003))
def wickerref02_Check.j4 : Nat → Bool → List ByteArray → List ByteArray → Int → List (S38) → Option (Int)
 | 0, _, _, _, _, _ => none
 | k + 1, x77, x213000, x213001, x213002, x213003 => if x77 = true then (some 3) else (wickerref02_Check.l2 k 0 x213000 x213001 x213002 x213003)
def wickerref02_Check.l2 : Nat → Int → List ByteArray → List ByteArray → Int → List (S38) → Option (Int)
 | 0, _, _, _, _, _ => none
 | k + 1, x5, x213000, x213001, x213002, x213003 => if x5 < (x213003.length : Int) then (if 0 ≤ x5 then (if ((rd_T38 x213003 x5).f0) < 0 then (wickerref02_Check.j6 k x5 true x213000 x213001 x213002 x213003 ((rd_T38 x213003 x5).f0) ((rd_T38 x213003 x5).f1)) else (wickerref02_Check.j6 k x5 (decide (((rd_T38 x213003 x5).f0) ≥ (x213000.length : Int))) x213000 x213001 x213002 x213003 ((rd_T38 x213003 x5).f0) ((rd_T38 x213003 x5).f1))) else (none)) else (wickerref02_Check.l4 k 0 x213000 x213001 x213002 x213003)
def wickerref02_Check.j6 : Nat → Int → Bool → List ByteArray → List ByteArray → Int → List (S38) → Int → List Int → Option (Int)
 | 0, _, _, _, _, _, _, _, _ => none
 | k + 1, x5, x100, x213000, x213001, x213002, x213003, x221000, x221001 => if x100 = true then (some 3) else (wickerref02_Check.l3 k x5 0 x213000 x213001 x213002 x213003 x221000 x221001)
def wickerref02_Check.l3 : Nat → Int → Int → List ByteArray → List ByteArray → Int → List (S38) → Int → List Int → Option (Int)
 | 0, _, _, _, _, _, _, _, _ => none
 | k + 1, x5, x7, x213000, x213001, x213002, x213003, x221000, x221001 => if x7 < (x221001.length : Int) then (if 0 ≤ x7 then ((wickerref02_Has.f x213000 x213001 x213002 x213003 (rd x221001 x7)).bind fun t222 => (if t222 = true then (wickerref02_Check.l3 k x5 (wrap64 (x7 + 1)) x213000 x213001 x213002 x213003 x221000 x221001) else (some 3))) else (none)) else (if (x221001.length : Int) > 64 then (some 5) else (wickerref02_Check.l2 k (wrap64 (x5 + 1)) x213000 x213001 x213002 x213003))
def wickerref02_Check.l4 : Nat → Int → List ByteArray → List ByteArray → Int → List (S38) → Option (Int)
 | 0, _, _, _, _, _ => none
 | k + 1, x8, x213000, x213001, x213002, x213003 => if x8 < (x213003.length : Int) then (if 0 ≤ x8 then ((wickerref02_Find.f k x213003 ((rd_T38 x213003 x8).f0) ((rd_T38 x213003 x8).f1)).bind fun t224 => (if t224 < x8 then (some 2) else (wickerref02_Check.l4 k (wrap64 (x8 + 1)) x213000 x213001 x213002 x213003))) else (none)) else (some 0)
end
def wickerref02_Check.f (k : Nat) (l0_0 : List ByteArray) (l0_1 : List ByteArray) (a0_2 : Int) (l0_3 : List (S38)) : Option (Int) := if (l0_0.length : Int) < 1 then (wickerref02_Check.j0 k true l0_0 l0_1 a0_2 l0_3) else (if (l0_0.length : Int) > 2048 then (wickerref02_Check.j0 k true l0_0 l0_1 a0_2 l0_3) else (if (l0_1.length : Int) > 2048 then (wickerref02_Check.j0 k true l0_0 l0_1 a0_2 l0_3) else (wickerref02_Check.j0 k (decide ((l0_3.length : Int) > 8192)) l0_0 l0_1 a0_2 l0_3)))
def wickerref02_Check.T26 : Bool × List (List Nat × List Nat) := (true, [([], []), ([], []), ([1], [1]), ([], []), ([2, 3], [2, 3]), ([4], [4]), ([0, 5], [0, 5]), ([6], [6])])
def wickerref02_Check.B26 : List Nat := [0, 0, 2, 0, 14, 30, 63, 127]
theorem wickerref02_Check.tab26 : rtab .any (opsOf Tryd.f63 26) = wickerref02_Check.T26 := by kernel_rfl
theorem wickerref02_Check.bits26 : waitsOk wickerref02_Check.T26.2 wickerref02_Check.B26 = true := by kernel_rfl
def wickerref02_Check.T33 : Bool × List (List Nat × List Nat) := (true, [([], []), ([0], [0]), ([], []), ([2], [2]), ([], []), ([3, 4], [3, 4]), ([5], [5]), ([1, 6], [1, 6]), ([], []), ([7, 8], [7, 8])])
def wickerref02_Check.B33 : List Nat := [0, 1, 0, 4, 0, 28, 60, 127, 0, 511]
theorem wickerref02_Check.tab33 : rtab .any (opsOf Tryd.f63 33) = wickerref02_Check.T33 := by kernel_rfl
theorem wickerref02_Check.bits33 : waitsOk wickerref02_Check.T33.2 wickerref02_Check.B33 = true := by kernel_rfl
set_option maxHeartbeats 8000000 in
set_option maxRecDepth 100000 in
theorem wickerref02_Check.calls (k : Nat) (A0_0 : Option Addr) (c0_0 : Nat) (l0_0 : List ByteArray) (A0_1 : Option Addr) (c0_1 : Nat) (l0_1 : List ByteArray) (a0_2 : Int) (A0_3 : Option Addr) (c0_3 : Nat) (l0_3 : List (S38)) (r : Int) (w : World) (hr0_0 : Kd.C Kd.string w A0_0 l0_0.length l0_0) (hc0_0 : l0_0.length ≤ c0_0) (hr0_1 : Kd.C Kd.string w A0_1 l0_1.length l0_1) (hc0_1 : l0_1.length ≤ c0_1) (hr0_3 : Kd.C k38 w A0_3 l0_3.length l0_3) (hc0_3 : l0_3.length ≤ c0_3) (h : wickerref02_Check.f k l0_0 l0_1 a0_2 l0_3 = some r) :
  Calls Tryd.prog 63 #[.agg #[.slice A0_0 l0_0.length c0_0, .slice A0_1 l0_1.length c0_1, .int .i64 a0_2, .slice A0_3 l0_3.length c0_3]] w fun e w' => e = .returned (.int .i64 r) ∧ Below w.heap.size w w' := by
 have hu30 := Tryd.underlying30
 have hu38 := Tryd.underlying38
 have HR0_0 := Aside0.mk hr0_0
 have HC0_0 := Aside0.mk hc0_0
 clear hr0_0 hc0_0
 have HR0_1 := Aside0.mk hr0_1
 have HC0_1 := Aside0.mk hc0_1
 clear hr0_1 hc0_1
 have HR0_3 := Aside0.mk hr0_3
 have HC0_3 := Aside0.mk hc0_3
 clear hr0_3 hc0_3
 have HB := Aside0.mk (Below.refl w.heap.size w)
 have H : (if (l0_0.length : Int) < 1 then (wickerref02_Check.j0 k true l0_0 l0_1 a0_2 l0_3) else (if (l0_0.length : Int) > 2048 then (wickerref02_Check.j0 k true l0_0 l0_1 a0_2 l0_3) else (if (l0_1.length : Int) > 2048 then (wickerref02_Check.j0 k true l0_0 l0_1 a0_2 l0_3) else (wickerref02_Check.j0 k (decide ((l0_3.length : Int) > 8192)) l0_0 l0_1 a0_2 l0_3)))) = some r := h
 clear h
 have HC2 := Aside0.mk H
 clear H
 go_enter Tryd.func63, Tryd.ntmps63
 go_upto_region 1 with (first | ((with_reducible refine gate_dst (N := 1) rfl ?_); (try (refine gate_guard (by rfl) ?_; dsimp only)); refine box_event ?hg (N := 1) ?hd (cs := #[.slice A0_0 l0_0.length c0_0, .slice A0_1 l0_1.length c0_1, .int .i64 a0_2, .slice A0_3 l0_3.length c0_3]) (t := 30) ?hr ?_; (case hd => rfl); (case hg => rfl); (case hr => first | (go_simp; done) | (go_simp; rfl)); intro gb212 hg w3 hbox hb; have n0_ := Aside0.mk (below_step (by repeat (first | (with_reducible first | exact HB.out | apply below_alloc | apply pw_below_drewN | apply below_drew1) | exact HB.out)) hb); have n1_ := Aside0.mk (hbox); have n2_ := Aside0.mk ((by rw [hg]; exact (below_size (by repeat (first | (with_reducible first | exact HB.out | apply below_alloc | apply pw_below_drewN | apply below_drew1) | exact HB.out))) : w.heap.size ≤ gb212)); have n3_ := Aside0.mk ((by rw [hg]; exact (below_size (by repeat (first | (with_reducible first | exact HB.out | apply below_alloc | apply pw_below_drewN | apply below_drew1) | exact HB.out))) : w.heap.size ≤ gb212)); clear HB; have HB := n0_; have BK212 := n1_; have GW212 := n2_; have GE212 := n3_; clear n0_ n1_ n2_ n3_; clear hb hbox hg))
 (try simp only [Act.put, List.setIfInBounds_toArray, List.set_cons_zero, List.set_cons_succ])
 go_cut [30] (fun v30 wc => ∃ (kq : Nat) (x30_1 : Bool), v30 = .bool x30_1 ∧ Aside0 (wickerref02_Check.j0 kq x30_1 l0_0 l0_1 a0_2 l0_3 = some r) ∧ Aside0 (kq ≤ k) ∧ Aside0 (wc.heap[gb212]? = some (.cells #[(.slice A0_0 l0_0.length c0_0), (.slice A0_1 l0_1.length c0_1), .int .i64 a0_2, (.slice A0_3 l0_3.length c0_3)] 30 (0, 0))) ∧ Aside0 (Below w.heap.size w wc))
 case first =>
  have H := HC2.out
  clear HC2
  by_cases c4 : (l0_0.length : Int) < 1
  ·rw [if_pos c4] at H
   have c4b0 : decide ((l0_0.length : Int) < 1) = true := decide_eq_true c4
   have c4b1 : decide (l0_0.length < 1) = true := decide_eq_true (by omega)
   clear c4
   (first | rw [c4b0] | (simp only [i64_w, i32_w]; rw [c4b0]) | skip)
   have H' := Aside0.mk H
   clear H
   have hcz5_0 : w3.cell? ⟨gb212, 0, none⟩ = some (.slice A0_0 l0_0.length c0_0) := (blk_cell BK212.out 0).trans rfl
   have hcz5_1 : w3.cell? ⟨gb212, 1, none⟩ = some (.slice A0_1 l0_1.length c0_1) := (blk_cell BK212.out 1).trans rfl
   have hcz5_2 : w3.cell? ⟨gb212, 2, none⟩ = some (.int .i64 a0_2) := (blk_cell BK212.out 2).trans rfl
   have hcz5_3 : w3.cell? ⟨gb212, 3, none⟩ = some (.slice A0_3 l0_3.length c0_3) := (blk_cell BK212.out 3).trans rfl
   have hfz5_0 := blk_frozen BK212.out 0
   have hfz5_1 := blk_frozen BK212.out 1
   have hfz5_2 := blk_frozen BK212.out 2
   have hfz5_3 := blk_frozen BK212.out 3
   go_wp2
   go_meet
   case rel => exact ⟨_, (true), (by first | rfl | (simp; done) | (simp [*]; done)), H', ⟨by first | omega | exact Nat.le_refl _⟩, ⟨by (with_reducible repeat (first | refine blk_drewN ?_ _ | refine blk_drew ?_ | refine blk_alloc ?_ _)); exact BK212.out⟩, ⟨by repeat (first | (with_reducible first | exact HB.out | apply below_alloc | apply pw_below_drewN | apply below_drew1 | refine below_set ?_ GE212.out) | exact HB.out)⟩⟩
  ·rw [if_neg c4] at H
   have c4b0 : decide ((l0_0.length : Int) < 1) = false := decide_eq_false c4
   have c4b1 : decide (l0_0.length < 1) = false := decide_eq_false (by omega)
   clear c4
   (first | rw [c4b0] | (simp only [i64_w, i32_w]; rw [c4b0]) | skip)
   by_cases c6 : (l0_0.length : Int) > 2048
   ·rw [if_pos c6] at H
    have c6b0 : decide (2048 < (l0_0.length : Int)) = true := decide_eq_true c6
    have c6b1 : decide (2048 < l0_0.length) = true := decide_eq_true (by omega)
    clear c6
    have H' := Aside0.mk H
    clear H
    have hcz7_0 : w3.cell? ⟨gb212, 0, none⟩ = some (.slice A0_0 l0_0.length c0_0) := (blk_cell BK212.out 0).trans rfl
    have hcz7_1 : w3.cell? ⟨gb212, 1, none⟩ = some (.slice A0_1 l0_1.length c0_1) := (blk_cell BK212.out 1).trans rfl
    have hcz7_2 : w3.cell? ⟨gb212, 2, none⟩ = some (.int .i64 a0_2) := (blk_cell BK212.out 2).trans rfl
    have hcz7_3 : w3.cell? ⟨gb212, 3, none⟩ = some (.slice A0_3 l0_3.length c0_3) := (blk_cell BK212.out 3).trans rfl
    have hfz7_0 := blk_frozen BK212.out 0
    have hfz7_1 := blk_frozen BK212.out 1
    have hfz7_2 := blk_frozen BK212.out 2
    have hfz7_3 := blk_frozen BK212.out 3
    go_wp2
    go_meet
    case rel => exact ⟨_, (true), (by first | rfl | (simp; done) | (simp [*]; done)), H', ⟨by first | omega | exact Nat.le_refl _⟩, ⟨by (with_reducible repeat (first | refine blk_drewN ?_ _ | refine blk_drew ?_ | refine blk_alloc ?_ _)); exact BK212.out⟩, ⟨by repeat (first | (with_reducible first | exact HB.out | apply below_alloc | apply pw_below_drewN | apply below_drew1 | refine below_set ?_ GE212.out) | exact HB.out)⟩⟩
   ·rw [if_neg c6] at H
    have c6b0 : decide (2048 < (l0_0.length : Int)) = false := decide_eq_false c6
    have c6b1 : decide (2048 < l0_0.length) = false := decide_eq_false (by omega)
    clear c6
    by_cases c8 : (l0_1.length : Int) > 2048
    ·rw [if_pos c8] at H
     have c8b0 : decide (2048 < (l0_1.length : Int)) = true := decide_eq_true c8
     have c8b1 : decide (2048 < l0_1.length) = true := decide_eq_true (by omega)
     clear c8
     have H' := Aside0.mk H
     clear H
     have hcz9_0 : w3.cell? ⟨gb212, 0, none⟩ = some (.slice A0_0 l0_0.length c0_0) := (blk_cell BK212.out 0).trans rfl
     have hcz9_1 : w3.cell? ⟨gb212, 1, none⟩ = some (.slice A0_1 l0_1.length c0_1) := (blk_cell BK212.out 1).trans rfl
     have hcz9_2 : w3.cell? ⟨gb212, 2, none⟩ = some (.int .i64 a0_2) := (blk_cell BK212.out 2).trans rfl
     have hcz9_3 : w3.cell? ⟨gb212, 3, none⟩ = some (.slice A0_3 l0_3.length c0_3) := (blk_cell BK212.out 3).trans rfl
     have hfz9_0 := blk_frozen BK212.out 0
     have hfz9_1 := blk_frozen BK212.out 1
     have hfz9_2 := blk_frozen BK212.out 2
     have hfz9_3 := blk_frozen BK212.out 3
     go_wp2
     go_meet
     case rel => exact ⟨_, (true), (by first | rfl | (simp; done) | (simp [*]; done)), H', ⟨by first | omega | exact Nat.le_refl _⟩, ⟨by (with_reducible repeat (first | refine blk_drewN ?_ _ | refine blk_drew ?_ | refine blk_alloc ?_ _)); exact BK212.out⟩, ⟨by repeat (first | (with_reducible first | exact HB.out | apply below_alloc | apply pw_below_drewN | apply below_drew1 | refine below_set ?_ GE212.out) | exact HB.out)⟩⟩
    ·rw [if_neg c8] at H
     have c8b0 : decide (2048 < (l0_1.length : Int)) = false := decide_eq_false c8
     have c8b1 : decide (2048 < l0_1.length) = false := decide_eq_false (by omega)
     clear c8
     have H' := Aside0.mk H
     clear H
     have hcz10_0 : w3.cell? ⟨gb212, 0, none⟩ = some (.slice A0_0 l0_0.length c0_0) := (blk_cell BK212.out 0).trans rfl
     have hcz10_1 : w3.cell? ⟨gb212, 1, none⟩ = some (.slice A0_1 l0_1.length c0_1) := (blk_cell BK212.out 1).trans rfl
     have hcz10_2 : w3.cell? ⟨gb212, 2, none⟩ = some (.int .i64 a0_2) := (blk_cell BK212.out 2).trans rfl
     have hcz10_3 : w3.cell? ⟨gb212, 3, none⟩ = some (.slice A0_3 l0_3.length c0_3) := (blk_cell BK212.out 3).trans rfl
     have hfz10_0 := blk_frozen BK212.out 0
     have hfz10_1 := blk_frozen BK212.out 1
     have hfz10_2 := blk_frozen BK212.out 2
     have hfz10_3 := blk_frozen BK212.out 3
     go_wp2
     go_meet
     case rel => exact ⟨_, (decide ((l0_3.length : Int) > 8192)), (by first | rfl | (simp; done) | (simp [*]; done)), H', ⟨by first | omega | exact Nat.le_refl _⟩, ⟨by (with_reducible repeat (first | refine blk_drewN ?_ _ | refine blk_drew ?_ | refine blk_alloc ?_ _)); exact BK212.out⟩, ⟨by repeat (first | (with_reducible first | exact HB.out | apply below_alloc | apply pw_below_drewN | apply below_drew1 | refine below_set ?_ GE212.out) | exact HB.out)⟩⟩
 case rest =>
  clear HC2
  try clear p2
  try clear c4
  try clear c4b0
  try clear c4b1
  try clear c6
  try clear c6b0
  try clear c6b1
  try clear c8
  try clear c8b0
  try clear c8b1
  try clear hcz10_0
  try clear hcz10_1
  try clear hcz10_2
  try clear hcz10_3
  try clear hcz5_0
  try clear hcz5_1
  try clear hcz5_2
  try clear hcz5_3
  try clear hcz7_0
  try clear hcz7_1
  try clear hcz7_2
  try clear hcz7_3
  try clear hcz9_0
  try clear hcz9_1
  try clear hcz9_2
  try clear hcz9_3
  try clear hfz10_0
  try clear hfz10_1
  try clear hfz10_2
  try clear hfz10_3
  try clear hfz5_0
  try clear hfz5_1
  try clear hfz5_2
  try clear hfz5_3
  try clear hfz7_0
  try clear hfz7_1
  try clear hfz7_2
  try clear hfz7_3
  try clear hfz9_0
  try clear hfz9_1
  try clear hfz9_2
  try clear hfz9_3
  obtain ⟨kq, x30_1, rfl, HA, HJ1, BK212, HB⟩ := hcut
  cases kq with
  | zero => exact absurd HA.out (by simp [wickerref02_Check.j0])
  | succ kj1 =>
   have H := HA.out
   clear HA
   simp only [wickerref02_Check.j0] at H
   by_cases c11 : x30_1 = true
   ·subst c11
    have H1 : (some 11) = some r := by rw [if_pos rfl] at H; exact H
    clear H
    have H := H1
    clear H1
    obtain rfl := Option.some.inj H
    go_wp2
    go_ret
    exact ⟨by first | rfl | (simp [errW_none, errW_some] <;> rfl) | (simp [*, errW_none, errW_some] <;> rfl), by repeat (first | (with_reducible first | exact HB.out | apply below_alloc | apply pw_below_drewN | apply below_drew1 | refine below_set ?_ GE212.out) | exact HB.out)⟩
   ·replace c11 := Bool.eq_false_iff.mpr c11
    subst c11
    have H1 : (wickerref02_Check.l0 kj1 0 l0_0 l0_1 a0_2 l0_3) = some r := by rw [if_neg (show ¬ (false = true) by decide)] at H; exact H
    clear H
    have H := H1
    clear H1
    have H' := Aside0.mk H
    clear H
    go_wp2
    go_loopg [3] kj1 (fun kq v3 w' => ∃ (x3_2 : Int), v3 = .int .i64 x3_2 ∧ Aside0 (wickerref02_Check.l0 kq x3_2 l0_0 l0_1 a0_2 l0_3 = some r) ∧ Aside0 (kq ≤ kj1) ∧ Aside0 (w'.heap[gb212]? = some (.cells #[(.slice A0_0 l0_0.length c0_0), (.slice A0_1 l0_1.length c0_1), .int .i64 a0_2, (.slice A0_3 l0_3.length c0_3)] 30 (0, 0))) ∧ Aside0 (Below w.heap.size w w'))
    case atStart => exact ⟨(0), (by first | rfl | (simp; done) | (simp [*]; done)), H', ⟨Nat.le_refl _⟩, ⟨by (with_reducible repeat (first | refine blk_drewN ?_ _ | refine blk_drew ?_ | refine blk_alloc ?_ _)); exact BK212.out⟩, ⟨by repeat (first | (with_reducible first | exact HB.out | apply below_alloc | apply pw_below_drewN | apply below_drew1 | refine below_set ?_ GE212.out) | exact HB.out)⟩⟩
    case round =>
     clear H'
     try clear c1
     try clear p2
     try clear c4
     try clear c4b0
     try clear c4b1
     try clear c6
     try clear c6b0
     try clear c6b1
     try clear c8
     try clear c8b0
     try clear c8b1
     try clear c11
     try clear hcz10_0
     try clear hcz10_1
     try clear hcz10_2
     try clear hcz10_3
     try clear hcz5_0
     try clear hcz5_1
     try clear hcz5_2
     try clear hcz5_3
     try clear hcz7_0
     try clear hcz7_1
     try clear hcz7_2
     try clear hcz7_3
     try clear hcz9_0
     try clear hcz9_1
     try clear hcz9_2
     try clear hcz9_3
     try clear hfz10_0
     try clear hfz10_1
     try clear hfz10_2
     try clear hfz10_3
     try clear hfz5_0
     try clear hfz5_1
     try clear hfz5_2
     try clear hfz5_3
     try clear hfz7_0
     try clear hfz7_1
     try clear hfz7_2
     try clear hfz7_3
     try clear hfz9_0
     try clear hfz9_1
     try clear hfz9_2
     try clear hfz9_3
     try clear p2
     obtain ⟨x3_2, rfl, HA, HK2, BK212, HB⟩ := hrel
     cases gk with
     | zero => exact absurd HA.out (by simp [wickerref02_Check.l0])
     | succ k2 =>
      have H := HA.out
      clear HA
      simp only [wickerref02_Check.l0] at H
      by_cases c12 : x3_2 < (l0_0.length : Int)
      ·rw [if_pos c12] at H
       have c12b0 : decide (x3_2 < (l0_0.length : Int)) = true := decide_eq_true c12
       clear c12
       by_cases c13 : 0 ≤ x3_2
       ·rw [if_pos c13] at H
        have c13b0 : decide (0 ≤ x3_2) = true := decide_eq_true c13
        clear c13
        replace H := Option.bind_eq_some_iff.mp H
        obtain ⟨t214, A140, H⟩ := H
        replace H : (if t214 = true then (wickerref02_Check.l0 k2 (wrap64 (x3_2 + 1)) l0_0 l0_1 a0_2 l0_3) else (some 1)) = some r := H
        have A14 := Aside0.mk A140
        clear A140
        by_cases c15 : t214 = true
        ·subst c15
         have H1 : (wickerref02_Check.l0 k2 (wrap64 (x3_2 + 1)) l0_0 l0_1 a0_2 l0_3) = some r := by rw [if_pos rfl] at H; exact H
         clear H
         have H := H1
         clear H1
         have H' := Aside0.mk H
         clear H
         have hcz16_0 : wr.cell? ⟨gb212, 0, none⟩ = some (.slice A0_0 l0_0.length c0_0) := (blk_cell BK212.out 0).trans rfl
         have hcz16_1 : wr.cell? ⟨gb212, 1, none⟩ = some (.slice A0_1 l0_1.length c0_1) := (blk_cell BK212.out 1).trans rfl
         have hcz16_2 : wr.cell? ⟨gb212, 2, none⟩ = some (.int .i64 a0_2) := (blk_cell BK212.out 2).trans rfl
         have hcz16_3 : wr.cell? ⟨gb212, 3, none⟩ = some (.slice A0_3 l0_3.length c0_3) := (blk_cell BK212.out 3).trans rfl
         have hfz16_0 := blk_frozen BK212.out 0
         have hfz16_1 := blk_frozen BK212.out 1
         have hfz16_2 := blk_frozen BK212.out 2
         have hfz16_3 := blk_frozen BK212.out 3
         have p213 : 0 ≤ (x3_2 : Int) := of_decide_eq_true (by first | (with_reducible assumption) | assumption)
         have q213 : x3_2 < (l0_0.length : Int) := of_decide_eq_true (by first | (with_reducible assumption) | assumption)
         obtain ⟨ad213, e213, hx213_0⟩ := Kd.at_string HR0_0.out x3_2 p213 q213
         cases e213
         replace hx213_0 := (HB.out.cell (World.block_lt_of_cell? w _ hx213_0)).trans hx213_0
         replace p213 := eq_true p213
         replace q213 := eq_true q213
         go_wp2_with (first | ((with_reducible refine gate_callee (f := 80) rfl ?_); refine goesL_ (some 43) rfl rfl Tryd.func80 (by kernel_rfl) rfl #[.string (rdOf ByteArray.empty l0_0 x3_2)] rfl (by (try simp only [List.map_toArray, List.map_cons, List.map_nil]); first | done | rfl | (simp only [List.length_drop, List.length_take]; rfl)) ?_; (with_reducible refine (wickerref01_Name.calls k2 (rdOf ByteArray.empty l0_0 x3_2) true _ A14.out).mono ?_); rintro e w' ⟨rfl, ⟨nd, rfl⟩⟩; refine ⟨_, rfl, ?_⟩))
         go_roundg k2
         case measure => have := HJ1.out; have := HK2.out; omega
         case rel => exact ⟨(wrap64 (x3_2 + 1)), (by first | rfl | (simp; done) | (simp [*]; done)), H', ⟨by have := HJ1.out; have := HK2.out; omega⟩, ⟨by (with_reducible repeat (first | refine blk_drewN ?_ _ | refine blk_drew ?_ | refine blk_alloc ?_ _)); exact BK212.out⟩, ⟨by repeat (first | (with_reducible first | exact HB.out | apply below_alloc | apply pw_below_drewN | apply below_drew1 | refine below_set ?_ GE212.out) | exact HB.out)⟩⟩
        ·replace c15 := Bool.eq_false_iff.mpr c15
         subst c15
         have H1 : (some 1) = some r := by rw [if_neg (show ¬ (false = true) by decide)] at H; exact H
         clear H
         have H := H1
         clear H1
         obtain rfl := Option.some.inj H
         have hcz17_0 : wr.cell? ⟨gb212, 0, none⟩ = some (.slice A0_0 l0_0.length c0_0) := (blk_cell BK212.out 0).trans rfl
         have hcz17_1 : wr.cell? ⟨gb212, 1, none⟩ = some (.slice A0_1 l0_1.length c0_1) := (blk_cell BK212.out 1).trans rfl
         have hcz17_2 : wr.cell? ⟨gb212, 2, none⟩ = some (.int .i64 a0_2) := (blk_cell BK212.out 2).trans rfl
         have hcz17_3 : wr.cell? ⟨gb212, 3, none⟩ = some (.slice A0_3 l0_3.length c0_3) := (blk_cell BK212.out 3).trans rfl
         have hfz17_0 := blk_frozen BK212.out 0
         have hfz17_1 := blk_frozen BK212.out 1
         have hfz17_2 := blk_frozen BK212.out 2
         have hfz17_3 := blk_frozen BK212.out 3
         have p213 : 0 ≤ (x3_2 : Int) := of_decide_eq_true (by first | (with_reducible assumption) | assumption)
         have q213 : x3_2 < (l0_0.length : Int) := of_decide_eq_true (by first | (with_reducible assumption) | assumption)
         obtain ⟨ad213, e213, hx213_0⟩ := Kd.at_string HR0_0.out x3_2 p213 q213
         cases e213
         replace hx213_0 := (HB.out.cell (World.block_lt_of_cell? w _ hx213_0)).trans hx213_0
         replace p213 := eq_true p213
         replace q213 := eq_true q213
         go_wp2_with (first | ((with_reducible refine gate_callee (f := 80) rfl ?_); refine goesL_ (some 43) rfl rfl Tryd.func80 (by kernel_rfl) rfl #[.string (rdOf ByteArray.empty l0_0 x3_2)] rfl (by (try simp only [List.map_toArray, List.map_cons, List.map_nil]); first | done | rfl | (simp only [List.length_drop, List.length_take]; rfl)) ?_; (with_reducible refine (wickerref01_Name.calls k2 (rdOf ByteArray.empty l0_0 x3_2) false _ A14.out).mono ?_); rintro e w' ⟨rfl, ⟨nd, rfl⟩⟩; refine ⟨_, rfl, ?_⟩))
         go_ret
         exact ⟨by first | rfl | (simp [errW_none, errW_some] <;> rfl) | (simp [*, errW_none, errW_some] <;> rfl), by repeat (first | (with_reducible first | exact HB.out | apply below_alloc | apply pw_below_drewN | apply below_drew1 | refine below_set ?_ GE212.out) | exact HB.out)⟩
       ·rw [if_neg c13] at H
        exact absurd H (by simp)
      ·rw [if_neg c12] at H
       have c12b0 : decide (x3_2 < (l0_0.length : Int)) = false := decide_eq_false c12
       clear c12
       have H' := Aside0.mk H
       clear H
       have hcz18_0 : wr.cell? ⟨gb212, 0, none⟩ = some (.slice A0_0 l0_0.length c0_0) := (blk_cell BK212.out 0).trans rfl
       have hcz18_1 : wr.cell? ⟨gb212, 1, none⟩ = some (.slice A0_1 l0_1.length c0_1) := (blk_cell BK212.out 1).trans rfl
       have hcz18_2 : wr.cell? ⟨gb212, 2, none⟩ = some (.int .i64 a0_2) := (blk_cell BK212.out 2).trans rfl
       have hcz18_3 : wr.cell? ⟨gb212, 3, none⟩ = some (.slice A0_3 l0_3.length c0_3) := (blk_cell BK212.out 3).trans rfl
       have hfz18_0 := blk_frozen BK212.out 0
       have hfz18_1 := blk_frozen BK212.out 1
       have hfz18_2 := blk_frozen BK212.out 2
       have hfz18_3 := blk_frozen BK212.out 3
       go_wp2
       go_loopg [4] k2 (fun kq v4 w' => ∃ (x4_3 : Int), v4 = .int .i64 x4_3 ∧ Aside0 (wickerref02_Check.l1 kq x4_3 l0_0 l0_1 a0_2 l0_3 = some r) ∧ Aside0 (kq ≤ k2) ∧ Aside0 (w'.heap[gb212]? = some (.cells #[(.slice A0_0 l0_0.length c0_0), (.slice A0_1 l0_1.length c0_1), .int .i64 a0_2, (.slice A0_3 l0_3.length c0_3)] 30 (0, 0))) ∧ Aside0 (Below w.heap.size w w'))
       case atStart => exact ⟨(0), (by first | rfl | (simp; done) | (simp [*]; done)), H', ⟨Nat.le_refl _⟩, ⟨by (with_reducible repeat (first | refine blk_drewN ?_ _ | refine blk_drew ?_ | refine blk_alloc ?_ _)); exact BK212.out⟩, ⟨by repeat (first | (with_reducible first | exact HB.out | apply below_alloc | apply pw_below_drewN | apply below_drew1 | refine below_set ?_ GE212.out) | exact HB.out)⟩⟩
       case round =>
        clear H'
        try clear c1
        try clear p2
        try clear q2
        try clear hx2
        try clear c4
        try clear c4b0
        try clear c4b1
        try clear c6
        try clear c6b0
        try clear c6b1
        try clear p6
        try clear c8
        try clear c8b0
        try clear c8b1
        try clear c11
        try clear c12
        try clear c12b0
        try clear c13
        try clear c13b0
        try clear c15
        try clear hcz10_0
        try clear hcz10_1
        try clear hcz10_2
        try clear hcz10_3
        try clear hcz16_0
        try clear hcz16_1
        try clear hcz16_2
        try clear hcz16_3
        try clear hcz17_0
        try clear hcz17_1
        try clear hcz17_2
        try clear hcz17_3
        try clear hcz18_0
        try clear hcz18_1
        try clear hcz18_2
        try clear hcz18_3
        try clear hcz5_0
        try clear hcz5_1
        try clear hcz5_2
        try clear hcz5_3
        try clear hcz7_0
        try clear hcz7_1
        try clear hcz7_2
        try clear hcz7_3
        try clear hcz9_0
        try clear hcz9_1
        try clear hcz9_2
        try clear hcz9_3
        try clear hfz10_0
        try clear hfz10_1
        try clear hfz10_2
        try clear hfz10_3
        try clear hfz16_0
        try clear hfz16_1
        try clear hfz16_2
        try clear hfz16_3
        try clear hfz17_0
        try clear hfz17_1
        try clear hfz17_2
        try clear hfz17_3
        try clear hfz18_0
        try clear hfz18_1
        try clear hfz18_2
        try clear hfz18_3
        try clear hfz5_0
        try clear hfz5_1
        try clear hfz5_2
        try clear hfz5_3
        try clear hfz7_0
        try clear hfz7_1
        try clear hfz7_2
        try clear hfz7_3
        try clear hfz9_0
        try clear hfz9_1
        try clear hfz9_2
        try clear hfz9_3
        try clear hx213_0
        try clear p2
        try clear p213
        try clear q213
        obtain ⟨x4_3, rfl, HA, HK3, BK212, HB⟩ := hrel
        cases gk with
        | zero => exact absurd HA.out (by simp [wickerref02_Check.l1])
        | succ k3 =>
         have H := HA.out
         clear HA
         simp only [wickerref02_Check.l1] at H
         by_cases c19 : x4_3 < (l0_1.length : Int)
         ·rw [if_pos c19] at H
          have c19b0 : decide (x4_3 < (l0_1.length : Int)) = true := decide_eq_true c19
          clear c19
          by_cases c20 : 0 ≤ x4_3
          ·rw [if_pos c20] at H
           have c20b0 : decide (0 ≤ x4_3) = true := decide_eq_true c20
           clear c20
           replace H := Option.bind_eq_some_iff.mp H
           obtain ⟨t216, A210, H⟩ := H
           replace H : (if t216 = true then (wickerref02_Check.l1 k3 (wrap64 (x4_3 + 1)) l0_0 l0_1 a0_2 l0_3) else (some 1)) = some r := H
           have A21 := Aside0.mk A210
           clear A210
           by_cases c22 : t216 = true
           ·subst c22
            have H1 : (wickerref02_Check.l1 k3 (wrap64 (x4_3 + 1)) l0_0 l0_1 a0_2 l0_3) = some r := by rw [if_pos rfl] at H; exact H
            clear H
            have H := H1
            clear H1
            have H' := Aside0.mk H
            clear H
            have hcz23_0 : wr.cell? ⟨gb212, 0, none⟩ = some (.slice A0_0 l0_0.length c0_0) := (blk_cell BK212.out 0).trans rfl
            have hcz23_1 : wr.cell? ⟨gb212, 1, none⟩ = some (.slice A0_1 l0_1.length c0_1) := (blk_cell BK212.out 1).trans rfl
            have hcz23_2 : wr.cell? ⟨gb212, 2, none⟩ = some (.int .i64 a0_2) := (blk_cell BK212.out 2).trans rfl
            have hcz23_3 : wr.cell? ⟨gb212, 3, none⟩ = some (.slice A0_3 l0_3.length c0_3) := (blk_cell BK212.out 3).trans rfl
            have hfz23_0 := blk_frozen BK212.out 0
            have hfz23_1 := blk_frozen BK212.out 1
            have hfz23_2 := blk_frozen BK212.out 2
            have hfz23_3 := blk_frozen BK212.out 3
            have p215 : 0 ≤ (x4_3 : Int) := of_decide_eq_true (by first | (with_reducible assumption) | assumption)
            have q215 : x4_3 < (l0_1.length : Int) := of_decide_eq_true (by first | (with_reducible assumption) | assumption)
            obtain ⟨ad215, e215, hx215_0⟩ := Kd.at_string HR0_1.out x4_3 p215 q215
            cases e215
            replace hx215_0 := (HB.out.cell (World.block_lt_of_cell? w _ hx215_0)).trans hx215_0
            replace p215 := eq_true p215
            replace q215 := eq_true q215
            go_wp2_with (first | ((with_reducible refine gate_callee (f := 81) rfl ?_); refine goesL_ (some 57) rfl rfl Tryd.func81 (by kernel_rfl) rfl #[.string (rdOf ByteArray.empty l0_1 x4_3)] rfl (by (try simp only [List.map_toArray, List.map_cons, List.map_nil]); first | done | rfl | (simp only [List.length_drop, List.length_take]; rfl)) ?_; (with_reducible refine (wickerref01_Mark.calls (rdOf ByteArray.empty l0_1 x4_3) true _ A21.out).mono ?_); rintro e w' ⟨rfl, ⟨nd, rfl⟩⟩; refine ⟨_, rfl, ?_⟩))
            go_roundg k3
            case measure => have := HJ1.out; have := HK2.out; have := HK3.out; omega
            case rel => exact ⟨(wrap64 (x4_3 + 1)), (by first | rfl | (simp; done) | (simp [*]; done)), H', ⟨by have := HJ1.out; have := HK2.out; have := HK3.out; omega⟩, ⟨by (with_reducible repeat (first | refine blk_drewN ?_ _ | refine blk_drew ?_ | refine blk_alloc ?_ _)); exact BK212.out⟩, ⟨by repeat (first | (with_reducible first | exact HB.out | apply below_alloc | apply pw_below_drewN | apply below_drew1 | refine below_set ?_ GE212.out) | exact HB.out)⟩⟩
           ·replace c22 := Bool.eq_false_iff.mpr c22
            subst c22
            have H1 : (some 1) = some r := by rw [if_neg (show ¬ (false = true) by decide)] at H; exact H
            clear H
            have H := H1
            clear H1
            obtain rfl := Option.some.inj H
            have hcz24_0 : wr.cell? ⟨gb212, 0, none⟩ = some (.slice A0_0 l0_0.length c0_0) := (blk_cell BK212.out 0).trans rfl
            have hcz24_1 : wr.cell? ⟨gb212, 1, none⟩ = some (.slice A0_1 l0_1.length c0_1) := (blk_cell BK212.out 1).trans rfl
            have hcz24_2 : wr.cell? ⟨gb212, 2, none⟩ = some (.int .i64 a0_2) := (blk_cell BK212.out 2).trans rfl
            have hcz24_3 : wr.cell? ⟨gb212, 3, none⟩ = some (.slice A0_3 l0_3.length c0_3) := (blk_cell BK212.out 3).trans rfl
            have hfz24_0 := blk_frozen BK212.out 0
            have hfz24_1 := blk_frozen BK212.out 1
            have hfz24_2 := blk_frozen BK212.out 2
            have hfz24_3 := blk_frozen BK212.out 3
            have p215 : 0 ≤ (x4_3 : Int) := of_decide_eq_true (by first | (with_reducible assumption) | assumption)
            have q215 : x4_3 < (l0_1.length : Int) := of_decide_eq_true (by first | (with_reducible assumption) | assumption)
            obtain ⟨ad215, e215, hx215_0⟩ := Kd.at_string HR0_1.out x4_3 p215 q215
            cases e215
            replace hx215_0 := (HB.out.cell (World.block_lt_of_cell? w _ hx215_0)).trans hx215_0
            replace p215 := eq_true p215
            replace q215 := eq_true q215
            go_wp2_with (first | ((with_reducible refine gate_callee (f := 81) rfl ?_); refine goesL_ (some 57) rfl rfl Tryd.func81 (by kernel_rfl) rfl #[.string (rdOf ByteArray.empty l0_1 x4_3)] rfl (by (try simp only [List.map_toArray, List.map_cons, List.map_nil]); first | done | rfl | (simp only [List.length_drop, List.length_take]; rfl)) ?_; (with_reducible refine (wickerref01_Mark.calls (rdOf ByteArray.empty l0_1 x4_3) false _ A21.out).mono ?_); rintro e w' ⟨rfl, ⟨nd, rfl⟩⟩; refine ⟨_, rfl, ?_⟩))
            go_ret
            exact ⟨by first | rfl | (simp [errW_none, errW_some] <;> rfl) | (simp [*, errW_none, errW_some] <;> rfl), by repeat (first | (with_reducible first | exact HB.out | apply below_alloc | apply pw_below_drewN | apply below_drew1 | refine below_set ?_ GE212.out) | exact HB.out)⟩
          ·rw [if_neg c20] at H
           exact absurd H (by simp)
         ·rw [if_neg c19] at H
          have c19b0 : decide (x4_3 < (l0_1.length : Int)) = false := decide_eq_false c19
          clear c19
          have HC25 := Aside0.mk H
          clear H
          have hcz26_0 : wr.cell? ⟨gb212, 0, none⟩ = some (.slice A0_0 l0_0.length c0_0) := (blk_cell BK212.out 0).trans rfl
          have hcz26_1 : wr.cell? ⟨gb212, 1, none⟩ = some (.slice A0_1 l0_1.length c0_1) := (blk_cell BK212.out 1).trans rfl
          have hcz26_2 : wr.cell? ⟨gb212, 2, none⟩ = some (.int .i64 a0_2) := (blk_cell BK212.out 2).trans rfl
          have hcz26_3 : wr.cell? ⟨gb212, 3, none⟩ = some (.slice A0_3 l0_3.length c0_3) := (blk_cell BK212.out 3).trans rfl
          have hfz26_0 := blk_frozen BK212.out 0
          have hfz26_1 := blk_frozen BK212.out 1
          have hfz26_2 := blk_frozen BK212.out 2
          have hfz26_3 := blk_frozen BK212.out 3
          go_upto_region 13 with (fail)
          go_cut [66] (fun v66 wc => ∃ (kq : Nat) (x66_24 : Bool), v66 = .bool x66_24 ∧ Aside0 (wickerref02_Check.j3 kq x66_24 l0_0 l0_1 a0_2 l0_3 = some r) ∧ Aside0 (kq ≤ k3) ∧ Aside0 (wc.heap[gb212]? = some (.cells #[(.slice A0_0 l0_0.length c0_0), (.slice A0_1 l0_1.length c0_1), .int .i64 a0_2, (.slice A0_3 l0_3.length c0_3)] 30 (0, 0))) ∧ Aside0 (Below w.heap.size w wc))
          case first =>
           have H := HC25.out
           clear HC25
           replace H := Option.bind_eq_some_iff.mp H
           obtain ⟨t217, A270, H⟩ := H
           replace H : (if t217 = true then (wickerref02_Check.j3 k3 true l0_0 l0_1 a0_2 l0_3) else ((wickerref02_twice.f k3 l0_1).bind fun t218 => (wickerref02_Check.j3 k3 t218 l0_0 l0_1 a0_2 l0_3))) = some r := H
           have A27 := Aside0.mk A270
           clear A270
           by_cases c28 : t217 = true
           ·subst c28
            have H1 : (wickerref02_Check.j3 k3 true l0_0 l0_1 a0_2 l0_3) = some r := by rw [if_pos rfl] at H; exact H
            clear H
            have H := H1
            clear H1
            have H' := Aside0.mk H
            clear H
            have hcz29_0 : wr.cell? ⟨gb212, 0, none⟩ = some (.slice A0_0 l0_0.length c0_0) := (blk_cell BK212.out 0).trans rfl
            have hcz29_1 : wr.cell? ⟨gb212, 1, none⟩ = some (.slice A0_1 l0_1.length c0_1) := (blk_cell BK212.out 1).trans rfl
            have hcz29_2 : wr.cell? ⟨gb212, 2, none⟩ = some (.int .i64 a0_2) := (blk_cell BK212.out 2).trans rfl
            have hcz29_3 : wr.cell? ⟨gb212, 3, none⟩ = some (.slice A0_3 l0_3.length c0_3) := (blk_cell BK212.out 3).trans rfl
            have hfz29_0 := blk_frozen BK212.out 0
            have hfz29_1 := blk_frozen BK212.out 1
            have hfz29_2 := blk_frozen BK212.out 2
            have hfz29_3 := blk_frozen BK212.out 3
            go_wp2_with (first | ((with_reducible refine gate_callee (f := 82) rfl ?_); refine goesL_ (some 61) rfl rfl Tryd.func82 (by kernel_rfl) rfl #[.slice A0_0 l0_0.length c0_0] rfl (by (try simp only [List.map_toArray, List.map_cons, List.map_nil]); first | done | rfl | (simp only [List.length_drop, List.length_take]; rfl)) ?_; (with_reducible refine (wickerref02_twice.calls k3 _ _ l0_0 true _ ?side1 ?side2 A27.out).mono ?_); (case side1 => repeat (first | exact (Kd.C_below HR0_0.out HB.out) | (with_reducible refine Kd.C_alloc ?_ _) | (with_reducible refine Kd.C_drewN ?_ _) | (with_reducible refine Kd.C_drew ?_))); (case side2 => exact HC0_0.out); rintro e w' ⟨rfl, ⟨nd, rfl⟩⟩; refine ⟨_, rfl, ?_⟩))
            go_meet
            case rel => exact ⟨_, (true), (by first | rfl | (simp; done) | (simp [*]; done)), H', ⟨by have := HJ1.out; have := HK2.out; have := HK3.out; first | omega | exact Nat.le_refl _⟩, ⟨by (with_reducible repeat (first | refine blk_drewN ?_ _ | refine blk_drew ?_ | refine blk_alloc ?_ _)); exact BK212.out⟩, ⟨by repeat (first | (with_reducible first | exact HB.out | apply below_alloc | apply pw_below_drewN | apply below_drew1 | refine below_set ?_ GE212.out) | exact HB.out)⟩⟩
           ·replace c28 := Bool.eq_false_iff.mpr c28
            subst c28
            have H1 : ((wickerref02_twice.f k3 l0_1).bind fun t218 => (wickerref02_Check.j3 k3 t218 l0_0 l0_1 a0_2 l0_3)) = some r := by rw [if_neg (show ¬ (false = true) by decide)] at H; exact H
            clear H
            have H := H1
            clear H1
            replace H := Option.bind_eq_some_iff.mp H
            obtain ⟨t218, A300, H⟩ := H
            replace H : (wickerref02_Check.j3 k3 t218 l0_0 l0_1 a0_2 l0_3) = some r := H
            have A30 := Aside0.mk A300
            clear A300
            have H' := Aside0.mk H
            clear H
            have hcz31_0 : wr.cell? ⟨gb212, 0, none⟩ = some (.slice A0_0 l0_0.length c0_0) := (blk_cell BK212.out 0).trans rfl
            have hcz31_1 : wr.cell? ⟨gb212, 1, none⟩ = some (.slice A0_1 l0_1.length c0_1) := (blk_cell BK212.out 1).trans rfl
            have hcz31_2 : wr.cell? ⟨gb212, 2, none⟩ = some (.int .i64 a0_2) := (blk_cell BK212.out 2).trans rfl
            have hcz31_3 : wr.cell? ⟨gb212, 3, none⟩ = some (.slice A0_3 l0_3.length c0_3) := (blk_cell BK212.out 3).trans rfl
            have hfz31_0 := blk_frozen BK212.out 0
            have hfz31_1 := blk_frozen BK212.out 1
            have hfz31_2 := blk_frozen BK212.out 2
            have hfz31_3 := blk_frozen BK212.out 3
            go_wp2_with (first | ((with_reducible refine gate_callee (f := 82) rfl ?_); refine goesL_ (some 61) rfl rfl Tryd.func82 (by kernel_rfl) rfl #[.slice A0_0 l0_0.length c0_0] rfl (by (try simp only [List.map_toArray, List.map_cons, List.map_nil]); first | done | rfl | (simp only [List.length_drop, List.length_take]; rfl)) ?_; (with_reducible refine (wickerref02_twice.calls k3 _ _ l0_0 false _ ?side1 ?side2 A27.out).mono ?_); (case side1 => repeat (first | exact (Kd.C_below HR0_0.out HB.out) | (with_reducible refine Kd.C_alloc ?_ _) | (with_reducible refine Kd.C_drewN ?_ _) | (with_reducible refine Kd.C_drew ?_))); (case side2 => exact HC0_0.out); rintro e w' ⟨rfl, ⟨nd, rfl⟩⟩; refine ⟨_, rfl, ?_⟩) | (go_at_call 82; (with_reducible refine (wickerref02_twice.calls k3 _ _ l0_1 t218 _ ?side1 ?side2 A30.out).mono ?_); (case side1 => repeat (first | exact (Kd.C_below HR0_1.out (by repeat (first | (with_reducible first | exact HB.out | apply below_alloc | apply pw_below_drewN | apply below_drew1 | refine below_set ?_ GE212.out) | exact HB.out))) | (with_reducible refine Kd.C_alloc ?_ _) | (with_reducible refine Kd.C_drewN ?_ _) | (with_reducible refine Kd.C_drew ?_))); (case side2 => exact HC0_1.out); rintro e w' ⟨rfl, ⟨nd, rfl⟩⟩))
            go_meet
            case rel => exact ⟨_, (t218), (by first | rfl | (simp; done) | (simp [*]; done)), H', ⟨by have := HJ1.out; have := HK2.out; have := HK3.out; first | omega | exact Nat.le_refl _⟩, ⟨by (with_reducible repeat (first | refine blk_drewN ?_ _ | refine blk_drew ?_ | refine blk_alloc ?_ _)); exact BK212.out⟩, ⟨by repeat (first | (with_reducible first | exact HB.out | apply below_alloc | apply pw_below_drewN | apply below_drew1 | refine below_set ?_ GE212.out) | exact HB.out)⟩⟩
          case rest =>
           clear HC25
           try clear c1
           try clear c2
           try clear p2
           try clear q2
           try clear hx2
           try clear c4
           try clear c4b0
           try clear c4b1
           try clear c6
           try clear c6b0
           try clear c6b1
           try clear p6
           try clear c8
           try clear c8b0
           try clear c8b1
           try clear c11
           try clear c12
           try clear c12b0
           try clear c13
           try clear c13b0
           try clear c15
           try clear c19
           try clear c19b0
           try clear c20
           try clear c20b0
           try clear p21
           try clear q21
           try clear hx21
           try clear c22
           try clear c28
           try clear hcz10_0
           try clear hcz10_1
           try clear hcz10_2
           try clear hcz10_3
           try clear hcz16_0
           try clear hcz16_1
           try clear hcz16_2
           try clear hcz16_3
           try clear hcz17_0
           try clear hcz17_1
           try clear hcz17_2
           try clear hcz17_3
           try clear hcz18_0
           try clear hcz18_1
           try clear hcz18_2
           try clear hcz18_3
           try clear hcz23_0
           try clear hcz23_1
           try clear hcz23_2
           try clear hcz23_3
           try clear hcz24_0
           try clear hcz24_1
           try clear hcz24_2
           try clear hcz24_3
           try clear hcz26_0
           try clear hcz26_1
           try clear hcz26_2
           try clear hcz26_3
           try clear hcz29_0
           try clear hcz29_1
           try clear hcz29_2
           try clear hcz29_3
           try clear hcz31_0
           try clear hcz31_1
           try clear hcz31_2
           try clear hcz31_3
           try clear hcz5_0
           try clear hcz5_1
           try clear hcz5_2
           try clear hcz5_3
           try clear hcz7_0
           try clear hcz7_1
           try clear hcz7_2
           try clear hcz7_3
           try clear hcz9_0
           try clear hcz9_1
           try clear hcz9_2
           try clear hcz9_3
           try clear hfz10_0
           try clear hfz10_1
           try clear hfz10_2
           try clear hfz10_3
           try clear hfz16_0
           try clear hfz16_1
           try clear hfz16_2
           try clear hfz16_3
           try clear hfz17_0
           try clear hfz17_1
           try clear hfz17_2
           try clear hfz17_3
           try clear hfz18_0
           try clear hfz18_1
           try clear hfz18_2
           try clear hfz18_3
           try clear hfz23_0
           try clear hfz23_1
           try clear hfz23_2
           try clear hfz23_3
           try clear hfz24_0
           try clear hfz24_1
           try clear hfz24_2
           try clear hfz24_3
           try clear hfz26_0
           try clear hfz26_1
           try clear hfz26_2
           try clear hfz26_3
           try clear hfz29_0
           try clear hfz29_1
           try clear hfz29_2
           try clear hfz29_3
           try clear hfz31_0
           try clear hfz31_1
           try clear hfz31_2
           try clear hfz31_3
           try clear hfz5_0
           try clear hfz5_1
           try clear hfz5_2
           try clear hfz5_3
           try clear hfz7_0
           try clear hfz7_1
           try clear hfz7_2
           try clear hfz7_3
           try clear hfz9_0
           try clear hfz9_1
           try clear hfz9_2
           try clear hfz9_3
           try clear hx213_0
           try clear hx215_0
           try clear p2
           try clear p213
           try clear p215
           try clear p6
           try clear q2
           try clear q213
           try clear q215
           obtain ⟨kq, x66_24, rfl, HA, HJ24, BK212, HB⟩ := hcut
           cases kq with
           | zero => exact absurd HA.out (by simp [wickerref02_Check.j3])
           | succ kj24 =>
            have H := HA.out
            clear HA
            simp only [wickerref02_Check.j3] at H
            by_cases c32 : x66_24 = true
            ·subst c32
             have H1 : (some 2) = some r := by rw [if_pos rfl] at H; exact H
             clear H
             have H := H1
             clear H1
             obtain rfl := Option.some.inj H
             go_wp2
             go_ret
             exact ⟨by first | rfl | (simp [errW_none, errW_some] <;> rfl) | (simp [*, errW_none, errW_some] <;> rfl), by repeat (first | (with_reducible first | exact HB.out | apply below_alloc | apply pw_below_drewN | apply below_drew1 | refine below_set ?_ GE212.out) | exact HB.out)⟩
            ·replace c32 := Bool.eq_false_iff.mpr c32
             subst c32
             have H1 : (if a0_2 < 0 then (wickerref02_Check.j4 kj24 true l0_0 l0_1 a0_2 l0_3) else (wickerref02_Check.j4 kj24 (decide (a0_2 ≥ (l0_0.length : Int))) l0_0 l0_1 a0_2 l0_3)) = some r := by rw [if_neg (show ¬ (false = true) by decide)] at H; exact H
             clear H
             have H := H1
             clear H1
             have HC33 := Aside0.mk H
             clear H
             go_upto_region 15 with (fail)
             go_cut [77] (fun v77 wc => ∃ (kq : Nat) (x77_32 : Bool), v77 = .bool x77_32 ∧ Aside0 (wickerref02_Check.j4 kq x77_32 l0_0 l0_1 a0_2 l0_3 = some r) ∧ Aside0 (kq ≤ kj24) ∧ Aside0 (wc.heap[gb212]? = some (.cells #[(.slice A0_0 l0_0.length c0_0), (.slice A0_1 l0_1.length c0_1), .int .i64 a0_2, (.slice A0_3 l0_3.length c0_3)] 30 (0, 0))) ∧ Aside0 (Below w.heap.size w wc))
             case first =>
              have H := HC33.out
              clear HC33
              by_cases c34 : a0_2 < 0
              ·rw [if_pos c34] at H
               have c34b0 : decide (a0_2 < 0) = true := decide_eq_true c34
               clear c34
               (first | rw [c34b0] | (simp only [i64_w, i32_w]; rw [c34b0]) | skip)
               have H' := Aside0.mk H
               clear H
               have hcz35_0 : wc.cell? ⟨gb212, 0, none⟩ = some (.slice A0_0 l0_0.length c0_0) := (blk_cell BK212.out 0).trans rfl
               have hcz35_1 : wc.cell? ⟨gb212, 1, none⟩ = some (.slice A0_1 l0_1.length c0_1) := (blk_cell BK212.out 1).trans rfl
               have hcz35_2 : wc.cell? ⟨gb212, 2, none⟩ = some (.int .i64 a0_2) := (blk_cell BK212.out 2).trans rfl
               have hcz35_3 : wc.cell? ⟨gb212, 3, none⟩ = some (.slice A0_3 l0_3.length c0_3) := (blk_cell BK212.out 3).trans rfl
               have hfz35_0 := blk_frozen BK212.out 0
               have hfz35_1 := blk_frozen BK212.out 1
               have hfz35_2 := blk_frozen BK212.out 2
               have hfz35_3 := blk_frozen BK212.out 3
               go_wp2
               go_meet
               case rel => exact ⟨_, (true), (by first | rfl | (simp; done) | (simp [*]; done)), H', ⟨by have := HJ1.out; have := HK2.out; have := HK3.out; have := HJ24.out; first | omega | exact Nat.le_refl _⟩, ⟨by (with_reducible repeat (first | refine blk_drewN ?_ _ | refine blk_drew ?_ | refine blk_alloc ?_ _)); exact BK212.out⟩, ⟨by repeat (first | (with_reducible first | exact HB.out | apply below_alloc | apply pw_below_drewN | apply below_drew1 | refine below_set ?_ GE212.out) | exact HB.out)⟩⟩
              ·rw [if_neg c34] at H
               have c34b0 : decide (a0_2 < 0) = false := decide_eq_false c34
               clear c34
               (first | rw [c34b0] | (simp only [i64_w, i32_w]; rw [c34b0]) | skip)
               have H' := Aside0.mk H
               clear H
               have hcz36_0 : wc.cell? ⟨gb212, 0, none⟩ = some (.slice A0_0 l0_0.length c0_0) := (blk_cell BK212.out 0).trans rfl
               have hcz36_1 : wc.cell? ⟨gb212, 1, none⟩ = some (.slice A0_1 l0_1.length c0_1) := (blk_cell BK212.out 1).trans rfl
               have hcz36_2 : wc.cell? ⟨gb212, 2, none⟩ = some (.int .i64 a0_2) := (blk_cell BK212.out 2).trans rfl
               have hcz36_3 : wc.cell? ⟨gb212, 3, none⟩ = some (.slice A0_3 l0_3.length c0_3) := (blk_cell BK212.out 3).trans rfl
               have hfz36_0 := blk_frozen BK212.out 0
               have hfz36_1 := blk_frozen BK212.out 1
               have hfz36_2 := blk_frozen BK212.out 2
               have hfz36_3 := blk_frozen BK212.out 3
               go_wp2
               go_meet
               case rel => exact ⟨_, (decide (a0_2 ≥ (l0_0.length : Int))), (by first | rfl | (simp; done) | (simp [*]; done)), H', ⟨by have := HJ1.out; have := HK2.out; have := HK3.out; have := HJ24.out; first | omega | exact Nat.le_refl _⟩, ⟨by (with_reducible repeat (first | refine blk_drewN ?_ _ | refine blk_drew ?_ | refine blk_alloc ?_ _)); exact BK212.out⟩, ⟨by repeat (first | (with_reducible first | exact HB.out | apply below_alloc | apply pw_below_drewN | apply below_drew1 | refine below_set ?_ GE212.out) | exact HB.out)⟩⟩
             case rest =>
              clear HC33
              try clear c1
              try clear c2
              try clear p2
              try clear q2
              try clear hx2
              try clear c3
              try clear c4
              try clear c4b0
              try clear c4b1
              try clear c6
              try clear c6b0
              try clear c6b1
              try clear p6
              try clear c8
              try clear c8b0
              try clear c8b1
              try clear c11
              try clear c12
              try clear c12b0
              try clear c13
              try clear c13b0
              try clear c15
              try clear c19
              try clear c19b0
              try clear c20
              try clear c20b0
              try clear p21
              try clear q21
              try clear hx21
              try clear c22
              try clear c28
              try clear c32
              try clear c34
              try clear c34b0
              try clear hcz10_0
              try clear hcz10_1
              try clear hcz10_2
              try clear hcz10_3
              try clear hcz16_0
              try clear hcz16_1
              try clear hcz16_2
              try clear hcz16_3
              try clear hcz17_0
              try clear hcz17_1
              try clear hcz17_2
              try clear hcz17_3
              try clear hcz18_0
              try clear hcz18_1
              try clear hcz18_2
              try clear hcz18_3
              try clear hcz23_0
              try clear hcz23_1
              try clear hcz23_2
              try clear hcz23_3
              try clear hcz24_0
              try clear hcz24_1
              try clear hcz24_2
              try clear hcz24_3
              try clear hcz26_0
              try clear hcz26_1
              try clear hcz26_2
              try clear hcz26_3
              try clear hcz29_0
              try clear hcz29_1
              try clear hcz29_2
              try clear hcz29_3
              try clear hcz31_0
              try clear hcz31_1
              try clear hcz31_2
              try clear hcz31_3
              try clear hcz35_0
              try clear hcz35_1
              try clear hcz35_2
              try clear hcz35_3
              try clear hcz36_0
              try clear hcz36_1
              try clear hcz36_2
              try clear hcz36_3
              try clear hcz5_0
              try clear hcz5_1
              try clear hcz5_2
              try clear hcz5_3
              try clear hcz7_0
              try clear hcz7_1
              try clear hcz7_2
              try clear hcz7_3
              try clear hcz9_0
              try clear hcz9_1
              try clear hcz9_2
              try clear hcz9_3
              try clear hfz10_0
              try clear hfz10_1
              try clear hfz10_2
              try clear hfz10_3
              try clear hfz16_0
              try clear hfz16_1
              try clear hfz16_2
              try clear hfz16_3
              try clear hfz17_0
              try clear hfz17_1
              try clear hfz17_2
              try clear hfz17_3
              try clear hfz18_0
              try clear hfz18_1
              try clear hfz18_2
              try clear hfz18_3
              try clear hfz23_0
              try clear hfz23_1
              try clear hfz23_2
              try clear hfz23_3
              try clear hfz24_0
              try clear hfz24_1
              try clear hfz24_2
              try clear hfz24_3
              try clear hfz26_0
              try clear hfz26_1
              try clear hfz26_2
              try clear hfz26_3
              try clear hfz29_0
              try clear hfz29_1
              try clear hfz29_2
              try clear hfz29_3
              try clear hfz31_0
              try clear hfz31_1
              try clear hfz31_2
              try clear hfz31_3
              try clear hfz35_0
              try clear hfz35_1
              try clear hfz35_2
              try clear hfz35_3
              try clear hfz36_0
              try clear hfz36_1
              try clear hfz36_2
              try clear hfz36_3
              try clear hfz5_0
              try clear hfz5_1
              try clear hfz5_2
              try clear hfz5_3
              try clear hfz7_0
              try clear hfz7_1
              try clear hfz7_2
              try clear hfz7_3
              try clear hfz9_0
              try clear hfz9_1
              try clear hfz9_2
              try clear hfz9_3
              try clear hx213_0
              try clear hx215_0
              try clear p2
              try clear p21
              try clear p213
              try clear p215
              try clear p6
              try clear q2
              try clear q21
              try clear q213
              try clear q215
              obtain ⟨kq, x77_32, rfl, HA, HJ32, BK212, HB⟩ := hcut
              cases kq with
              | zero => exact absurd HA.out (by simp [wickerref02_Check.j4])
              | succ kj32 =>
               have H := HA.out
               clear HA
               simp only [wickerref02_Check.j4] at H
               by_cases c37 : x77_32 = true
               ·subst c37
                have H1 : (some 3) = some r := by rw [if_pos rfl] at H; exact H
                clear H
                have H := H1
                clear H1
                obtain rfl := Option.some.inj H
                go_wp2
                go_ret
                exact ⟨by first | rfl | (simp [errW_none, errW_some] <;> rfl) | (simp [*, errW_none, errW_some] <;> rfl), by repeat (first | (with_reducible first | exact HB.out | apply below_alloc | apply pw_below_drewN | apply below_drew1 | refine below_set ?_ GE212.out) | exact HB.out)⟩
               ·replace c37 := Bool.eq_false_iff.mpr c37
                subst c37
                have H1 : (wickerref02_Check.l2 kj32 0 l0_0 l0_1 a0_2 l0_3) = some r := by rw [if_neg (show ¬ (false = true) by decide)] at H; exact H
                clear H
                have H := H1
                clear H1
                have H' := Aside0.mk H
                clear H
                go_wp2
                go_loopg [5] kj32 (fun kq v5 w' => ∃ (x5_6 : Int), v5 = .int .i64 x5_6 ∧ Aside0 (wickerref02_Check.l2 kq x5_6 l0_0 l0_1 a0_2 l0_3 = some r) ∧ Aside0 (kq ≤ kj32) ∧ Aside0 (w'.heap[gb212]? = some (.cells #[(.slice A0_0 l0_0.length c0_0), (.slice A0_1 l0_1.length c0_1), .int .i64 a0_2, (.slice A0_3 l0_3.length c0_3)] 30 (0, 0))) ∧ Aside0 (Below w.heap.size w w'))
                case atStart => exact ⟨(0), (by first | rfl | (simp; done) | (simp [*]; done)), H', ⟨Nat.le_refl _⟩, ⟨by (with_reducible repeat (first | refine blk_drewN ?_ _ | refine blk_drew ?_ | refine blk_alloc ?_ _)); exact BK212.out⟩, ⟨by repeat (first | (with_reducible first | exact HB.out | apply below_alloc | apply pw_below_drewN | apply below_drew1 | refine below_set ?_ GE212.out) | exact HB.out)⟩⟩
                case round =>
                 clear H'
                 try clear c1
                 try clear c2
                 try clear p2
                 try clear q2
                 try clear hx2
                 try clear c3
                 try clear c4
                 try clear c4b0
                 try clear c4b1
                 try clear c6
                 try clear c6b0
                 try clear c6b1
                 try clear p6
                 try clear c8
                 try clear c8b0
                 try clear c8b1
                 try clear c11
                 try clear c12
                 try clear c12b0
                 try clear c13
                 try clear c13b0
                 try clear c15
                 try clear c19
                 try clear c19b0
                 try clear c20
                 try clear c20b0
                 try clear p21
                 try clear q21
                 try clear hx21
                 try clear c22
                 try clear c28
                 try clear c32
                 try clear c34
                 try clear c34b0
                 try clear c37
                 try clear hcz10_0
                 try clear hcz10_1
                 try clear hcz10_2
                 try clear hcz10_3
                 try clear hcz16_0
                 try clear hcz16_1
                 try clear hcz16_2
                 try clear hcz16_3
                 try clear hcz17_0
                 try clear hcz17_1
                 try clear hcz17_2
                 try clear hcz17_3
                 try clear hcz18_0
                 try clear hcz18_1
                 try clear hcz18_2
                 try clear hcz18_3
                 try clear hcz23_0
                 try clear hcz23_1
                 try clear hcz23_2
                 try clear hcz23_3
                 try clear hcz24_0
                 try clear hcz24_1
                 try clear hcz24_2
                 try clear hcz24_3
                 try clear hcz26_0
                 try clear hcz26_1
                 try clear hcz26_2
                 try clear hcz26_3
                 try clear hcz29_0
                 try clear hcz29_1
                 try clear hcz29_2
                 try clear hcz29_3
                 try clear hcz31_0
                 try clear hcz31_1
                 try clear hcz31_2
                 try clear hcz31_3
                 try clear hcz35_0
                 try clear hcz35_1
                 try clear hcz35_2
                 try clear hcz35_3
                 try clear hcz36_0
                 try clear hcz36_1
                 try clear hcz36_2
                 try clear hcz36_3
                 try clear hcz5_0
                 try clear hcz5_1
                 try clear hcz5_2
                 try clear hcz5_3
                 try clear hcz7_0
                 try clear hcz7_1
                 try clear hcz7_2
                 try clear hcz7_3
                 try clear hcz9_0
                 try clear hcz9_1
                 try clear hcz9_2
                 try clear hcz9_3
                 try clear hfz10_0
                 try clear hfz10_1
                 try clear hfz10_2
                 try clear hfz10_3
                 try clear hfz16_0
                 try clear hfz16_1
                 try clear hfz16_2
                 try clear hfz16_3
                 try clear hfz17_0
                 try clear hfz17_1
                 try clear hfz17_2
                 try clear hfz17_3
                 try clear hfz18_0
                 try clear hfz18_1
                 try clear hfz18_2
                 try clear hfz18_3
                 try clear hfz23_0
                 try clear hfz23_1
                 try clear hfz23_2
                 try clear hfz23_3
                 try clear hfz24_0
                 try clear hfz24_1
                 try clear hfz24_2
                 try clear hfz24_3
                 try clear hfz26_0
                 try clear hfz26_1
                 try clear hfz26_2
                 try clear hfz26_3
                 try clear hfz29_0
                 try clear hfz29_1
                 try clear hfz29_2
                 try clear hfz29_3
                 try clear hfz31_0
                 try clear hfz31_1
                 try clear hfz31_2
                 try clear hfz31_3
                 try clear hfz35_0
                 try clear hfz35_1
                 try clear hfz35_2
                 try clear hfz35_3
                 try clear hfz36_0
                 try clear hfz36_1
                 try clear hfz36_2
                 try clear hfz36_3
                 try clear hfz5_0
                 try clear hfz5_1
                 try clear hfz5_2
                 try clear hfz5_3
                 try clear hfz7_0
                 try clear hfz7_1
                 try clear hfz7_2
                 try clear hfz7_3
                 try clear hfz9_0
                 try clear hfz9_1
                 try clear hfz9_2
                 try clear hfz9_3
                 try clear hx213_0
                 try clear hx215_0
                 try clear p2
                 try clear p21
                 try clear p213
                 try clear p215
                 try clear p6
                 try clear q2
                 try clear q21
                 try clear q213
                 try clear q215
                 obtain ⟨x5_6, rfl, HA, HK6, BK212, HB⟩ := hrel
                 cases gk with
                 | zero => exact absurd HA.out (by simp [wickerref02_Check.l2])
                 | succ k6 =>
                  have H := HA.out
                  clear HA
                  simp only [wickerref02_Check.l2] at H
                  by_cases c38 : x5_6 < (l0_3.length : Int)
                  ·rw [if_pos c38] at H
                   have c38b0 : decide (x5_6 < (l0_3.length : Int)) = true := decide_eq_true c38
                   clear c38
                   by_cases c39 : 0 ≤ x5_6
                   ·rw [if_pos c39] at H
                    have c39b0 : decide (0 ≤ x5_6) = true := decide_eq_true c39
                    clear c39
                    have HC40 := Aside0.mk H
                    clear H
                    have hcz41_0 : wr.cell? ⟨gb212, 0, none⟩ = some (.slice A0_0 l0_0.length c0_0) := (blk_cell BK212.out 0).trans rfl
                    have hcz41_1 : wr.cell? ⟨gb212, 1, none⟩ = some (.slice A0_1 l0_1.length c0_1) := (blk_cell BK212.out 1).trans rfl
                    have hcz41_2 : wr.cell? ⟨gb212, 2, none⟩ = some (.int .i64 a0_2) := (blk_cell BK212.out 2).trans rfl
                    have hcz41_3 : wr.cell? ⟨gb212, 3, none⟩ = some (.slice A0_3 l0_3.length c0_3) := (blk_cell BK212.out 3).trans rfl
                    have hfz41_0 := blk_frozen BK212.out 0
                    have hfz41_1 := blk_frozen BK212.out 1
                    have hfz41_2 := blk_frozen BK212.out 2
                    have hfz41_3 := blk_frozen BK212.out 3
                    have p219 : 0 ≤ (x5_6 : Int) := of_decide_eq_true (by first | (with_reducible assumption) | assumption)
                    have q219 : x5_6 < (l0_3.length : Int) := of_decide_eq_true (by first | (with_reducible assumption) | assumption)
                    obtain ⟨ad219, A219_1, c219_1, e219, hx219_0, hx219_1, hl219_1, hi219_1⟩ := at_T38 HR0_3.out x5_6 p219 q219
                    cases e219
                    replace hx219_0 := (HB.out.cell (World.block_lt_of_cell? w _ hx219_0)).trans hx219_0
                    replace hx219_1 := (HB.out.cell (World.block_lt_of_cell? w _ hx219_1)).trans hx219_1
                    have HR219_1 := Aside0.mk hi219_1
                    have HC219_1 := Aside0.mk hl219_1
                    clear hi219_1 hl219_1
                    replace p219 := eq_true p219
                    replace q219 := eq_true q219
                    go_upto_region 21 with (first | ((with_reducible refine gate_dst (N := 6) rfl ?_); (try (refine gate_guard (by rfl) ?_; dsimp only)); refine box_event ?hg (N := 6) ?hd (cs := #[.int .i64 0, .slice none 0 0]) (t := 38) ?hr ?_; (case hd => rfl); (case hg => rfl); (case hr => first | (go_simp; done) | (go_simp; rfl)); intro gb220 hg w42 hbox hb; have n0_ := Aside0.mk (blk_below (g := gb212) (o := .cells #[.slice A0_0 l0_0.length c0_0, .slice A0_1 l0_1.length c0_1, .int .i64 a0_2, .slice (some ad219) l0_3.length c0_3] 30 (0, 0)) (by (with_reducible repeat (first | refine blk_drewN ?_ _ | refine blk_drew ?_ | refine blk_alloc ?_ _)); exact BK212.out) hb); have n1_ := Aside0.mk (below_step (by repeat (first | (with_reducible first | exact HB.out | apply below_alloc | apply pw_below_drewN | apply below_drew1 | refine below_set ?_ GE212.out) | exact HB.out)) hb); have n2_ := Aside0.mk (hbox); have n3_ := Aside0.mk ((by rw [hg]; exact (below_size (by repeat (first | (with_reducible first | exact HB.out | apply below_alloc | apply pw_below_drewN | apply below_drew1 | refine below_set ?_ GE212.out) | exact HB.out))) : w.heap.size ≤ gb220)); have n4_ := Aside0.mk ((by rw [hg]; exact (below_size (by repeat (first | (with_reducible first | exact HB.out | apply below_alloc | apply pw_below_drewN | apply below_drew1 | refine below_set ?_ GE212.out) | exact HB.out))) : w.heap.size ≤ gb220)); have n5_ := Aside0.mk ((by rw [hg]; exact Nat.ne_of_lt (blk_lt (g := gb212) (o := .cells #[.slice A0_0 l0_0.length c0_0, .slice A0_1 l0_1.length c0_1, .int .i64 a0_2, .slice (some ad219) l0_3.length c0_3] 30 (0, 0)) (by (with_reducible repeat (first | refine blk_drewN ?_ _ | refine blk_drew ?_ | refine blk_alloc ?_ _)); exact BK212.out)) : gb212 ≠ gb220)); have n6_ := Aside0.mk ((by rw [hg]; exact Nat.ne_of_gt (blk_lt (g := gb212) (o := .cells #[.slice A0_0 l0_0.length c0_0, .slice A0_1 l0_1.length c0_1, .int .i64 a0_2, .slice (some ad219) l0_3.length c0_3] 30 (0, 0)) (by (with_reducible repeat (first | refine blk_drewN ?_ _ | refine blk_drew ?_ | refine blk_alloc ?_ _)); exact BK212.out)) : gb220 ≠ gb212)); clear BK212; clear HB; have BK212 := n0_; have HB := n1_; have BK220 := n2_; have GW220 := n3_; have GE220 := n4_; have NB212_220 := n5_; have NB220_212 := n6_; clear n0_ n1_ n2_ n3_ n4_ n5_ n6_; clear hb hbox hg; have hnb43 := NB220_212.out; have hnc43 := NB212_220.out; have hcz44_0 : w42.cell? ⟨gb220, 0, none⟩ = some (.int .i64 0) := (blk_cell BK220.out 0).trans rfl; have hcz44_1 : w42.cell? ⟨gb220, 1, none⟩ = some (.slice none 0 0) := (blk_cell BK220.out 1).trans rfl; have hfz44_0 := blk_frozen BK220.out 0; have hfz44_1 := blk_frozen BK220.out 1))
                    (try simp only [Act.put, List.setIfInBounds_toArray, List.set_cons_zero, List.set_cons_succ])
                    go_cut [100] (fun v100 wc => ∃ (kq : Nat) (x100_39 : Bool), v100 = .bool x100_39 ∧ Aside0 (wickerref02_Check.j6 kq x5_6 x100_39 l0_0 l0_1 a0_2 l0_3 ((rd_T38 l0_3 x5_6).f0) ((rd_T38 l0_3 x5_6).f1) = some r) ∧ Aside0 (kq ≤ k6) ∧ Aside0 (wc.heap[gb212]? = some (.cells #[(.slice A0_0 l0_0.length c0_0), (.slice A0_1 l0_1.length c0_1), .int .i64 a0_2, (.slice (some ad219) l0_3.length c0_3)] 30 (0, 0))) ∧ Aside0 (wc.heap[gb220]? = some (.cells #[.int .i64 ((rd_T38 l0_3 x5_6).f0), (.slice A219_1 ((rd_T38 l0_3 x5_6).f1).length c219_1)] 38 (0, 0))) ∧ Aside0 (Below w.heap.size w wc))
                    case first =>
                     have H := HC40.out
                     clear HC40
                     by_cases c45 : ((rd_T38 l0_3 x5_6).f0) < 0
                     ·rw [if_pos c45] at H
                      have c45b0 : decide (((rd_T38 l0_3 x5_6).f0) < 0) = true := decide_eq_true c45
                      clear c45
                      (first | rw [c45b0] | (simp only [i64_w, i32_w]; rw [c45b0]) | skip)
                      have H' := Aside0.mk H
                      clear H
                      have hnb46 := NB220_212.out
                      have hnc46 := NB212_220.out
                      have hcz47_0 : w42.cell? ⟨gb220, 0, none⟩ = some (.int .i64 0) := (blk_cell BK220.out 0).trans rfl
                      have hcz47_1 : w42.cell? ⟨gb220, 1, none⟩ = some (.slice none 0 0) := (blk_cell BK220.out 1).trans rfl
                      have hfz47_0 := blk_frozen BK220.out 0
                      have hfz47_1 := blk_frozen BK220.out 1
                      go_wp2
                      go_meet
                      case rel => exact ⟨_, (true), (by first | rfl | (simp; done) | (simp [*]; done)), H', ⟨by have := HJ1.out; have := HK2.out; have := HK3.out; have := HJ24.out; have := HJ32.out; have := HK6.out; first | omega | exact Nat.le_refl _⟩, ⟨by (with_reducible repeat (first | refine blk_drewN ?_ _ | refine blk_drew ?_ | refine blk_alloc ?_ _)); refine blk_far ?_ NB212_220.out _; (with_reducible repeat (first | refine blk_drewN ?_ _ | refine blk_drew ?_ | refine blk_alloc ?_ _)); refine blk_far ?_ NB212_220.out _; (with_reducible repeat (first | refine blk_drewN ?_ _ | refine blk_drew ?_ | refine blk_alloc ?_ _)); exact BK212.out⟩, ⟨by (with_reducible repeat (first | refine blk_drewN ?_ _ | refine blk_drew ?_ | refine blk_alloc ?_ _)); refine blk_put (cs := #[.int .i64 ((rd_T38 l0_3 x5_6).f0), .slice none 0 0]) ?_ 1 _ rfl; (with_reducible repeat (first | refine blk_drewN ?_ _ | refine blk_drew ?_ | refine blk_alloc ?_ _)); refine blk_put (cs := #[.int .i64 0, .slice none 0 0]) ?_ 0 _ rfl; (with_reducible repeat (first | refine blk_drewN ?_ _ | refine blk_drew ?_ | refine blk_alloc ?_ _)); exact BK220.out⟩, ⟨by repeat (first | (with_reducible first | exact HB.out | apply below_alloc | apply pw_below_drewN | apply below_drew1 | refine below_set ?_ GE212.out | refine below_set ?_ GE220.out) | exact HB.out)⟩⟩
                     ·rw [if_neg c45] at H
                      have c45b0 : decide (((rd_T38 l0_3 x5_6).f0) < 0) = false := decide_eq_false c45
                      clear c45
                      (first | rw [c45b0] | (simp only [i64_w, i32_w]; rw [c45b0]) | skip)
                      have H' := Aside0.mk H
                      clear H
                      have hnb48 := NB220_212.out
                      have hnc48 := NB212_220.out
                      have hcz49_0 : w42.cell? ⟨gb220, 0, none⟩ = some (.int .i64 0) := (blk_cell BK220.out 0).trans rfl
                      have hcz49_1 : w42.cell? ⟨gb220, 1, none⟩ = some (.slice none 0 0) := (blk_cell BK220.out 1).trans rfl
                      have hfz49_0 := blk_frozen BK220.out 0
                      have hfz49_1 := blk_frozen BK220.out 1
                      have hcz50_0 : w42.cell? ⟨gb212, 0, none⟩ = some (.slice A0_0 l0_0.length c0_0) := (blk_cell BK212.out 0).trans rfl
                      have hcz50_1 : w42.cell? ⟨gb212, 1, none⟩ = some (.slice A0_1 l0_1.length c0_1) := (blk_cell BK212.out 1).trans rfl
                      have hcz50_2 : w42.cell? ⟨gb212, 2, none⟩ = some (.int .i64 a0_2) := (blk_cell BK212.out 2).trans rfl
                      have hcz50_3 : w42.cell? ⟨gb212, 3, none⟩ = some (.slice (some ad219) l0_3.length c0_3) := (blk_cell BK212.out 3).trans rfl
                      have hfz50_0 := blk_frozen BK212.out 0
                      have hfz50_1 := blk_frozen BK212.out 1
                      have hfz50_2 := blk_frozen BK212.out 2
                      have hfz50_3 := blk_frozen BK212.out 3
                      go_wp2
                      go_meet
                      case rel => exact ⟨_, (decide (((rd_T38 l0_3 x5_6).f0) ≥ (l0_0.length : Int))), (by first | rfl | (simp; done) | (simp [*]; done)), H', ⟨by have := HJ1.out; have := HK2.out; have := HK3.out; have := HJ24.out; have := HJ32.out; have := HK6.out; first | omega | exact Nat.le_refl _⟩, ⟨by (with_reducible repeat (first | refine blk_drewN ?_ _ | refine blk_drew ?_ | refine blk_alloc ?_ _)); refine blk_far ?_ NB212_220.out _; (with_reducible repeat (first | refine blk_drewN ?_ _ | refine blk_drew ?_ | refine blk_alloc ?_ _)); refine blk_far ?_ NB212_220.out _; (with_reducible repeat (first | refine blk_drewN ?_ _ | refine blk_drew ?_ | refine blk_alloc ?_ _)); exact BK212.out⟩, ⟨by (with_reducible repeat (first | refine blk_drewN ?_ _ | refine blk_drew ?_ | refine blk_alloc ?_ _)); refine blk_put (cs := #[.int .i64 ((rd_T38 l0_3 x5_6).f0), .slice none 0 0]) ?_ 1 _ rfl; (with_reducible repeat (first | refine blk_drewN ?_ _ | refine blk_drew ?_ | refine blk_alloc ?_ _)); refine blk_put (cs := #[.int .i64 0, .slice none 0 0]) ?_ 0 _ rfl; (with_reducible repeat (first | refine blk_drewN ?_ _ | refine blk_drew ?_ | refine blk_alloc ?_ _)); exact BK220.out⟩, ⟨by repeat (first | (with_reducible first | exact HB.out | apply below_alloc | apply pw_below_drewN | apply below_drew1 | refine below_set ?_ GE212.out | refine below_set ?_ GE220.out) | exact HB.out)⟩⟩
                    case rest =>
                     clear HC40
                     try clear c1
                     try clear c2
                     try clear p2
                     try clear q2
                     try clear hx2
                     try clear c3
                     try clear c4
                     try clear c4b0
                     try clear c4b1
                     try clear c6
                     try clear c6b0
                     try clear c6b1
                     try clear p6
                     try clear c8
                     try clear c8b0
                     try clear c8b1
                     try clear c11
                     try clear c12
                     try clear c12b0
                     try clear c13
                     try clear c13b0
                     try clear c15
                     try clear c19
                     try clear c19b0
                     try clear c20
                     try clear c20b0
                     try clear c21
                     try clear p21
                     try clear q21
                     try clear hx21
                     try clear c22
                     try clear c28
                     try clear c32
                     try clear c34
                     try clear c34b0
                     try clear c37
                     try clear c38
                     try clear c38b0
                     try clear c39
                     try clear c39b0
                     try clear c43
                     try clear c45
                     try clear c45b0
                     try clear c46
                     try clear c48
                     try clear hcz10_0
                     try clear hcz10_1
                     try clear hcz10_2
                     try clear hcz10_3
                     try clear hcz16_0
                     try clear hcz16_1
                     try clear hcz16_2
                     try clear hcz16_3
                     try clear hcz17_0
                     try clear hcz17_1
                     try clear hcz17_2
                     try clear hcz17_3
                     try clear hcz18_0
                     try clear hcz18_1
                     try clear hcz18_2
                     try clear hcz18_3
                     try clear hcz23_0
                     try clear hcz23_1
                     try clear hcz23_2
                     try clear hcz23_3
                     try clear hcz24_0
                     try clear hcz24_1
                     try clear hcz24_2
                     try clear hcz24_3
                     try clear hcz26_0
                     try clear hcz26_1
                     try clear hcz26_2
                     try clear hcz26_3
                     try clear hcz29_0
                     try clear hcz29_1
                     try clear hcz29_2
                     try clear hcz29_3
                     try clear hcz31_0
                     try clear hcz31_1
                     try clear hcz31_2
                     try clear hcz31_3
                     try clear hcz35_0
                     try clear hcz35_1
                     try clear hcz35_2
                     try clear hcz35_3
                     try clear hcz36_0
                     try clear hcz36_1
                     try clear hcz36_2
                     try clear hcz36_3
                     try clear hcz41_0
                     try clear hcz41_1
                     try clear hcz41_2
                     try clear hcz41_3
                     try clear hcz44_0
                     try clear hcz44_1
                     try clear hcz47_0
                     try clear hcz47_1
                     try clear hcz49_0
                     try clear hcz49_1
                     try clear hcz50_0
                     try clear hcz50_1
                     try clear hcz50_2
                     try clear hcz50_3
                     try clear hcz5_0
                     try clear hcz5_1
                     try clear hcz5_2
                     try clear hcz5_3
                     try clear hcz7_0
                     try clear hcz7_1
                     try clear hcz7_2
                     try clear hcz7_3
                     try clear hcz9_0
                     try clear hcz9_1
                     try clear hcz9_2
                     try clear hcz9_3
                     try clear hfz10_0
                     try clear hfz10_1
                     try clear hfz10_2
                     try clear hfz10_3
                     try clear hfz16_0
                     try clear hfz16_1
                     try clear hfz16_2
                     try clear hfz16_3
                     try clear hfz17_0
                     try clear hfz17_1
                     try clear hfz17_2
                     try clear hfz17_3
                     try clear hfz18_0
                     try clear hfz18_1
                     try clear hfz18_2
                     try clear hfz18_3
                     try clear hfz23_0
                     try clear hfz23_1
                     try clear hfz23_2
                     try clear hfz23_3
                     try clear hfz24_0
                     try clear hfz24_1
                     try clear hfz24_2
                     try clear hfz24_3
                     try clear hfz26_0
                     try clear hfz26_1
                     try clear hfz26_2
                     try clear hfz26_3
                     try clear hfz29_0
                     try clear hfz29_1
                     try clear hfz29_2
                     try clear hfz29_3
                     try clear hfz31_0
                     try clear hfz31_1
                     try clear hfz31_2
                     try clear hfz31_3
                     try clear hfz35_0
                     try clear hfz35_1
                     try clear hfz35_2
                     try clear hfz35_3
                     try clear hfz36_0
                     try clear hfz36_1
                     try clear hfz36_2
                     try clear hfz36_3
                     try clear hfz41_0
                     try clear hfz41_1
                     try clear hfz41_2
                     try clear hfz41_3
                     try clear hfz44_0
                     try clear hfz44_1
                     try clear hfz47_0
                     try clear hfz47_1
                     try clear hfz49_0
                     try clear hfz49_1
                     try clear hfz50_0
                     try clear hfz50_1
                     try clear hfz50_2
                     try clear hfz50_3
                     try clear hfz5_0
                     try clear hfz5_1
                     try clear hfz5_2
                     try clear hfz5_3
                     try clear hfz7_0
                     try clear hfz7_1
                     try clear hfz7_2
                     try clear hfz7_3
                     try clear hfz9_0
                     try clear hfz9_1
                     try clear hfz9_2
                     try clear hfz9_3
                     try clear hx213_0
                     try clear hx215_0
                     try clear hx219_0
                     try clear hx219_1
                     try clear p2
                     try clear p21
                     try clear p213
                     try clear p215
                     try clear p219
                     try clear p6
                     try clear q2
                     try clear q21
                     try clear q213
                     try clear q215
                     try clear q219
                     obtain ⟨kq, x100_39, rfl, HA, HJ39, BK212, BK220, HB⟩ := hcut
                     cases kq with
                     | zero => exact absurd HA.out (by simp [wickerref02_Check.j6])
                     | succ kj39 =>
                      have H := HA.out
                      clear HA
                      simp only [wickerref02_Check.j6] at H
                      by_cases c51 : x100_39 = true
                      ·subst c51
                       have H1 : (some 3) = some r := by rw [if_pos rfl] at H; exact H
                       clear H
                       have H := H1
                       clear H1
                       obtain rfl := Option.some.inj H
                       go_wp2
                       go_ret
                       exact ⟨by first | rfl | (simp [errW_none, errW_some] <;> rfl) | (simp [*, errW_none, errW_some] <;> rfl), by repeat (first | (with_reducible first | exact HB.out | apply below_alloc | apply pw_below_drewN | apply below_drew1 | refine below_set ?_ GE212.out | refine below_set ?_ GE220.out) | exact HB.out)⟩
                      ·replace c51 := Bool.eq_false_iff.mpr c51
                       subst c51
                       have H1 : (wickerref02_Check.l3 kj39 x5_6 0 l0_0 l0_1 a0_2 l0_3 ((rd_T38 l0_3 x5_6).f0) ((rd_T38 l0_3 x5_6).f1)) = some r := by rw [if_neg (show ¬ (false = true) by decide)] at H; exact H
                       clear H
                       have H := H1
                       clear H1
                       have H' := Aside0.mk H
                       clear H
                       go_wp2
                       go_loopg [7] kj39 (fun kq v7 w' => ∃ (x7_8 : Int), v7 = .int .i64 x7_8 ∧ Aside0 (wickerref02_Check.l3 kq x5_6 x7_8 l0_0 l0_1 a0_2 l0_3 ((rd_T38 l0_3 x5_6).f0) ((rd_T38 l0_3 x5_6).f1) = some r) ∧ Aside0 (kq ≤ kj39) ∧ Aside0 (w'.heap[gb212]? = some (.cells #[(.slice A0_0 l0_0.length c0_0), (.slice A0_1 l0_1.length c0_1), .int .i64 a0_2, (.slice (some ad219) l0_3.length c0_3)] 30 (0, 0))) ∧ Aside0 (w'.heap[gb220]? = some (.cells #[.int .i64 ((rd_T38 l0_3 x5_6).f0), (.slice A219_1 ((rd_T38 l0_3 x5_6).f1).length c219_1)] 38 (0, 0))) ∧ Aside0 (Below w.heap.size w w'))
                       case atStart => exact ⟨(0), (by first | rfl | (simp; done) | (simp [*]; done)), H', ⟨Nat.le_refl _⟩, ⟨by (with_reducible repeat (first | refine blk_drewN ?_ _ | refine blk_drew ?_ | refine blk_alloc ?_ _)); exact BK212.out⟩, ⟨by (with_reducible repeat (first | refine blk_drewN ?_ _ | refine blk_drew ?_ | refine blk_alloc ?_ _)); exact BK220.out⟩, ⟨by repeat (first | (with_reducible first | exact HB.out | apply below_alloc | apply pw_below_drewN | apply below_drew1 | refine below_set ?_ GE212.out | refine below_set ?_ GE220.out) | exact HB.out)⟩⟩
                       case round =>
                        clear H'
                        try clear c1
                        try clear c2
                        try clear p2
                        try clear q2
                        try clear hx2
                        try clear c3
                        try clear c4
                        try clear c4b0
                        try clear c4b1
                        try clear c5
                        try clear c6
                        try clear c6b0
                        try clear c6b1
                        try clear p6
                        try clear c8
                        try clear c8b0
                        try clear c8b1
                        try clear c11
                        try clear c12
                        try clear c12b0
                        try clear c13
                        try clear c13b0
                        try clear c15
                        try clear c19
                        try clear c19b0
                        try clear c20
                        try clear c20b0
                        try clear c21
                        try clear p21
                        try clear q21
                        try clear hx21
                        try clear c22
                        try clear c28
                        try clear c32
                        try clear c34
                        try clear c34b0
                        try clear c37
                        try clear c38
                        try clear c38b0
                        try clear c39
                        try clear c39b0
                        try clear c43
                        try clear c45
                        try clear c45b0
                        try clear c46
                        try clear c48
                        try clear c51
                        try clear hcz10_0
                        try clear hcz10_1
                        try clear hcz10_2
                        try clear hcz10_3
                        try clear hcz16_0
                        try clear hcz16_1
                        try clear hcz16_2
                        try clear hcz16_3
                        try clear hcz17_0
                        try clear hcz17_1
                        try clear hcz17_2
                        try clear hcz17_3
                        try clear hcz18_0
                        try clear hcz18_1
                        try clear hcz18_2
                        try clear hcz18_3
                        try clear hcz23_0
                        try clear hcz23_1
                        try clear hcz23_2
                        try clear hcz23_3
                        try clear hcz24_0
                        try clear hcz24_1
                        try clear hcz24_2
                        try clear hcz24_3
                        try clear hcz26_0
                        try clear hcz26_1
                        try clear hcz26_2
                        try clear hcz26_3
                        try clear hcz29_0
                        try clear hcz29_1
                        try clear hcz29_2
                        try clear hcz29_3
                        try clear hcz31_0
                        try clear hcz31_1
                        try clear hcz31_2
                        try clear hcz31_3
                        try clear hcz35_0
                        try clear hcz35_1
                        try clear hcz35_2
                        try clear hcz35_3
                        try clear hcz36_0
                        try clear hcz36_1
                        try clear hcz36_2
                        try clear hcz36_3
                        try clear hcz41_0
                        try clear hcz41_1
                        try clear hcz41_2
                        try clear hcz41_3
                        try clear hcz44_0
                        try clear hcz44_1
                        try clear hcz47_0
                        try clear hcz47_1
                        try clear hcz49_0
                        try clear hcz49_1
                        try clear hcz50_0
                        try clear hcz50_1
                        try clear hcz50_2
                        try clear hcz50_3
                        try clear hcz5_0
                        try clear hcz5_1
                        try clear hcz5_2
                        try clear hcz5_3
                        try clear hcz7_0
                        try clear hcz7_1
                        try clear hcz7_2
                        try clear hcz7_3
                        try clear hcz9_0
                        try clear hcz9_1
                        try clear hcz9_2
                        try clear hcz9_3
                        try clear hfz10_0
                        try clear hfz10_1
                        try clear hfz10_2
                        try clear hfz10_3
                        try clear hfz16_0
                        try clear hfz16_1
                        try clear hfz16_2
                        try clear hfz16_3
                        try clear hfz17_0
                        try clear hfz17_1
                        try clear hfz17_2
                        try clear hfz17_3
                        try clear hfz18_0
                        try clear hfz18_1
                        try clear hfz18_2
                        try clear hfz18_3
                        try clear hfz23_0
                        try clear hfz23_1
                        try clear hfz23_2
                        try clear hfz23_3
                        try clear hfz24_0
                        try clear hfz24_1
                        try clear hfz24_2
                        try clear hfz24_3
                        try clear hfz26_0
                        try clear hfz26_1
                        try clear hfz26_2
                        try clear hfz26_3
                        try clear hfz29_0
                        try clear hfz29_1
                        try clear hfz29_2
                        try clear hfz29_3
                        try clear hfz31_0
                        try clear hfz31_1
                        try clear hfz31_2
                        try clear hfz31_3
                        try clear hfz35_0
                        try clear hfz35_1
                        try clear hfz35_2
                        try clear hfz35_3
                        try clear hfz36_0
                        try clear hfz36_1
                        try clear hfz36_2
                        try clear hfz36_3
                        try clear hfz41_0
                        try clear hfz41_1
                        try clear hfz41_2
                        try clear hfz41_3
                        try clear hfz44_0
                        try clear hfz44_1
                        try clear hfz47_0
                        try clear hfz47_1
                        try clear hfz49_0
                        try clear hfz49_1
                        try clear hfz50_0
                        try clear hfz50_1
                        try clear hfz50_2
                        try clear hfz50_3
                        try clear hfz5_0
                        try clear hfz5_1
                        try clear hfz5_2
                        try clear hfz5_3
                        try clear hfz7_0
                        try clear hfz7_1
                        try clear hfz7_2
                        try clear hfz7_3
                        try clear hfz9_0
                        try clear hfz9_1
                        try clear hfz9_2
                        try clear hfz9_3
                        try clear hx213_0
                        try clear hx215_0
                        try clear hx219_0
                        try clear hx219_1
                        try clear p2
                        try clear p21
                        try clear p213
                        try clear p215
                        try clear p219
                        try clear p6
                        try clear q2
                        try clear q21
                        try clear q213
                        try clear q215
                        try clear q219
                        obtain ⟨x7_8, rfl, HA, HK8, BK212, BK220, HB⟩ := hrel
                        cases gk with
                        | zero => exact absurd HA.out (by simp [wickerref02_Check.l3])
                        | succ k8 =>
                         have H := HA.out
                         clear HA
                         simp only [wickerref02_Check.l3] at H
                         by_cases c52 : x7_8 < (((rd_T38 l0_3 x5_6).f1).length : Int)
                         ·rw [if_pos c52] at H
                          have c52b0 : decide (x7_8 < (((rd_T38 l0_3 x5_6).f1).length : Int)) = true := decide_eq_true c52
                          clear c52
                          by_cases c53 : 0 ≤ x7_8
                          ·rw [if_pos c53] at H
                           have c53b0 : decide (0 ≤ x7_8) = true := decide_eq_true c53
                           clear c53
                           replace H := Option.bind_eq_some_iff.mp H
                           obtain ⟨t222, A540, H⟩ := H
                           replace H : (if t222 = true then (wickerref02_Check.l3 k8 x5_6 (wrap64 (x7_8 + 1)) l0_0 l0_1 a0_2 l0_3 ((rd_T38 l0_3 x5_6).f0) ((rd_T38 l0_3 x5_6).f1)) else (some 3)) = some r := H
                           have A54 := Aside0.mk A540
                           clear A540
                           by_cases c55 : t222 = true
                           ·subst c55
                            have H1 : (wickerref02_Check.l3 k8 x5_6 (wrap64 (x7_8 + 1)) l0_0 l0_1 a0_2 l0_3 ((rd_T38 l0_3 x5_6).f0) ((rd_T38 l0_3 x5_6).f1)) = some r := by rw [if_pos rfl] at H; exact H
                            clear H
                            have H := H1
                            clear H1
                            have H' := Aside0.mk H
                            clear H
                            have hnb56 := NB220_212.out
                            have hnc56 := NB212_220.out
                            have hcz57_0 : wr.cell? ⟨gb220, 0, none⟩ = some (.int .i64 ((rd_T38 l0_3 x5_6).f0)) := (blk_cell BK220.out 0).trans rfl
                            have hcz57_1 : wr.cell? ⟨gb220, 1, none⟩ = some (.slice A219_1 ((rd_T38 l0_3 x5_6).f1).length c219_1) := (blk_cell BK220.out 1).trans rfl
                            have hfz57_0 := blk_frozen BK220.out 0
                            have hfz57_1 := blk_frozen BK220.out 1
                            try go_wp2
                            have n0_ := Aside0.mk (blk_drew BK212.out)
                            have n1_ := Aside0.mk (blk_drew BK220.out)
                            have n2_ := Aside0.mk (below_drew1 HB.out)
                            clear BK212
                            clear BK220
                            clear HB
                            have BK212 := n0_
                            have BK220 := n1_
                            have HB := n2_
                            clear n0_ n1_ n2_
                            have p221 : 0 ≤ (x7_8 : Int) := of_decide_eq_true (by first | (with_reducible assumption) | assumption)
                            have q221 : x7_8 < (((rd_T38 l0_3 x5_6).f1).length : Int) := of_decide_eq_true (by first | (with_reducible assumption) | assumption)
                            obtain ⟨ad221, e221, hx221_0⟩ := Kd.at_int HR219_1.out x7_8 p221 q221
                            have hw221_0 := hx221_0
                            cases e221
                            replace hx221_0 := (HB.out.cell (World.block_lt_of_cell? w _ hx221_0)).trans hx221_0
                            replace p221 := eq_true p221
                            replace q221 := eq_true q221
                            refine start_ (n := 8) (S := fun w' => w'.cell? ⟨gb212, 0, none⟩ = some (.slice A0_0 l0_0.length c0_0) ∧ w'.cell? ⟨gb212, 1, none⟩ = some (.slice A0_1 l0_1.length c0_1) ∧ w'.cell? ⟨gb212, 2, none⟩ = some (.int .i64 a0_2) ∧ w'.cell? ⟨gb212, 3, none⟩ = some (.slice (some ad219) l0_3.length c0_3) ∧ w'.cell? ⟨gb220, 0, none⟩ = some (.int .i64 ((rd_T38 l0_3 x5_6).f0)) ∧ w'.cell? ⟨gb220, 1, none⟩ = some (.slice (some ad221) ((rd_T38 l0_3 x5_6).f1).length c219_1) ∧ w'.cell? (ad221.add (x7_8).toNat) = some (.int .i64 (rd ((rd_T38 l0_3 x5_6).f1) x7_8))) (ds := []) #[false, false, false, false, false, false, false, false] (by kernel_rfl) rfl rfl ⟨(blk_cell BK212.out 0).trans rfl, (blk_cell BK212.out 1).trans rfl, (blk_cell BK212.out 2).trans rfl, (blk_cell BK212.out 3).trans rfl, (blk_cell BK220.out 0).trans rfl, (blk_cell BK220.out 1).trans rfl, ((HB.out.cell (World.block_lt_of_cell? w _ hw221_0)).trans hw221_0)⟩ (fun hHeld => ?_); refine with_tabW wickerref02_Check.tab26 wickerref02_Check.bits26 (fun HT_ HW_ => ?_)
                            generalize wr.drew = w58 at BK212 BK220 HB hx221_0 hHeld ⊢
                            refine pure_ (i := 1) (N := some 109) (v := ?_) (a' := ?_) #[false, true, false, false, false, false, false, false] rfl rfl (any_of HT_.out (by kernel_rfl)) (fun _ _ _ h => h) (Or.inl ⟨by rfl, ?_⟩) ?_ ?_
                            rotate_left
                            ·intro w'
                             go_simp
                             with_reducible rfl
                            rotate_left
                            ·simp only [Act.put, List.setIfInBounds_toArray, List.set_cons_zero, List.set_cons_succ, i64_w, i32_w]
                             rfl
                            refine pure_ (i := 3) (N := some 111) (v := ?_) (a' := ?_) #[false, true, false, true, false, false, false, false] rfl rfl (any_of HT_.out (by kernel_rfl)) (fun _ _ _ h => h) (Or.inl ⟨by rfl, ?_⟩) ?_ ?_
                            rotate_left
                            ·intro w'
                             go_simp
                             with_reducible rfl
                            rotate_left
                            ·simp only [Act.put, List.setIfInBounds_toArray, List.set_cons_zero, List.set_cons_succ, i64_w, i32_w]
                             rfl
                            refine take_ (i := 0) (N := some 108) (v := ?_) (a' := ?_) #[true, true, false, true, false, false, false, false] rfl rfl (take_ofW HT_.out HW_.out (by kernel_rfl)) (fun _ _ _ h => h) (Or.inl ⟨by rfl, ?_⟩) hHeld ?_ ?_
                            rotate_left
                            ·rintro w' ⟨s0, s1, s2, s3, s4, s5, s6⟩
                             go_simp
                             with_reducible rfl
                            rotate_left
                            ·simp only [Act.put, List.setIfInBounds_toArray, List.set_cons_zero, List.set_cons_succ, i64_w, i32_w]
                             rfl
                            refine take_ (i := 2) (N := some 110) (v := ?_) (a' := ?_) #[true, true, true, true, false, false, false, false] rfl rfl (take_ofW HT_.out HW_.out (by kernel_rfl)) (fun _ _ _ h => h) (Or.inl ⟨by rfl, ?_⟩) hHeld ?_ ?_
                            rotate_left
                            ·rintro w' ⟨s0, s1, s2, s3, s4, s5, s6⟩
                             go_simp
                             with_reducible rfl
                            rotate_left
                            ·simp only [Act.put, List.setIfInBounds_toArray, List.set_cons_zero, List.set_cons_succ, i64_w, i32_w]
                             rfl
                            refine pure_ (i := 4) (N := some 112) (v := ?_) (a' := ?_) #[true, true, true, true, true, false, false, false] rfl rfl (any_of HT_.out (by kernel_rfl)) (fun _ _ _ h => h) (Or.inl ⟨by rfl, ?_⟩) ?_ ?_
                            rotate_left
                            ·intro w'
                             go_simp
                             with_reducible rfl
                            rotate_left
                            ·simp only [Act.put, List.setIfInBounds_toArray, List.set_cons_zero, List.set_cons_succ, i64_w, i32_w]
                             rfl
                            refine take_ (i := 5) (N := some 113) (v := ?_) (a' := ?_) #[true, true, true, true, true, true, false, false] rfl rfl (take_ofW HT_.out HW_.out (by kernel_rfl)) (fun _ _ _ h => h) (Or.inl ⟨by rfl, ?_⟩) hHeld ?_ ?_
                            rotate_left
                            ·rintro w' ⟨s0, s1, s2, s3, s4, s5, s6⟩
                             go_simp
                             with_reducible rfl
                            rotate_left
                            ·simp only [Act.put, List.setIfInBounds_toArray, List.set_cons_zero, List.set_cons_succ, i64_w, i32_w]
                             rfl
                            refine one_ (i := 6) (N := some 114) #[true, true, true, true, true, true, true, false] rfl rfl (one_of HT_.out (by kernel_rfl)) (by decide) (fun K hK => ?_)
                            refine goes_ Tryd.func83 (by kernel_rfl) rfl #[.agg #[.slice A0_0 l0_0.length c0_0, .slice A0_1 l0_1.length c0_1, .int .i64 a0_2, .slice (some ad219) l0_3.length c0_3], .int .i64 (rd ((rd_T38 l0_3 x5_6).f1) x7_8)] (by rfl) rfl rfl (by (try simp only [List.map_toArray, List.map_cons, List.map_nil]); first | done | rfl | (simp only [List.length_drop, List.length_take]; rfl)) ?_
                            with_reducible refine (wickerref02_Has.calls _ _ l0_0 _ _ l0_1 a0_2 _ _ l0_3 (rd ((rd_T38 l0_3 x5_6).f1) x7_8) true _ ?side1 ?side2 ?side3 ?side4 ?side5 ?side6 A54.out).mono ?_
                            (case side1 => repeat (first | exact (Kd.C_below HR0_0.out HB.out) | (with_reducible refine Kd.C_alloc ?_ _) | (with_reducible refine Kd.C_drewN ?_ _) | (with_reducible refine Kd.C_drew ?_)))
                            (case side2 => exact HC0_0.out)
                            (case side3 => repeat (first | exact (Kd.C_below HR0_1.out HB.out) | (with_reducible refine Kd.C_alloc ?_ _) | (with_reducible refine Kd.C_drewN ?_ _) | (with_reducible refine Kd.C_drew ?_)))
                            (case side4 => exact HC0_1.out)
                            (case side5 => repeat (first | exact (Kd.C_below HR0_3.out HB.out) | (with_reducible refine Kd.C_alloc ?_ _) | (with_reducible refine Kd.C_drewN ?_ _) | (with_reducible refine Kd.C_drew ?_)))
                            (case side6 => exact HC0_3.out)
                            rintro e w59 ⟨rfl, hb⟩
                            refine ⟨_, rfl, ?_⟩
                            have n0_ := Aside0.mk (blk_below (g := gb212) (o := .cells #[.slice A0_0 l0_0.length c0_0, .slice A0_1 l0_1.length c0_1, .int .i64 a0_2, .slice (some ad219) l0_3.length c0_3] 30 (0, 0)) (by (with_reducible repeat (first | refine blk_drewN ?_ _ | refine blk_drew ?_ | refine blk_alloc ?_ _)); exact BK212.out) hb)
                            have n1_ := Aside0.mk (blk_below (g := gb220) (o := .cells #[.int .i64 ((rd_T38 l0_3 x5_6).f0), .slice (some ad221) ((rd_T38 l0_3 x5_6).f1).length c219_1] 38 (0, 0)) (by (with_reducible repeat (first | refine blk_drewN ?_ _ | refine blk_drew ?_ | refine blk_alloc ?_ _)); exact BK220.out) hb)
                            have n2_ := Aside0.mk (below_step (by repeat (first | (with_reducible first | exact HB.out | apply below_alloc | apply pw_below_drewN | apply below_drew1 | refine below_set ?_ GE212.out | refine below_set ?_ GE220.out) | exact HB.out)) hb)
                            clear BK212
                            clear BK220
                            clear HB
                            have BK212 := n0_
                            have BK220 := n1_
                            have HB := n2_
                            clear n0_ n1_ n2_
                            (try clear hb)
                            (try clear hb2)
                            (try clear hk)
                            (try clear hi)
                            refine hK.out _ _ ⟨(blk_cell BK212.out 0).trans rfl, (blk_cell BK212.out 1).trans rfl, (blk_cell BK212.out 2).trans rfl, (blk_cell BK212.out 3).trans rfl, (blk_cell BK220.out 0).trans rfl, (blk_cell BK220.out 1).trans rfl, ((HB.out.cell (World.block_lt_of_cell? w _ hw221_0)).trans hw221_0)⟩ (fun hHeld => ?_)
                            clear hK K
                            refine norm_ (a' := ?_) ?_ ?_
                            rotate_left
                            ·show Act.put _ (some 114) _ = _
                             simp only [Act.put, List.setIfInBounds_toArray, List.set_cons_zero, List.set_cons_succ, i64_w, i32_w]
                             rfl
                            refine pure_ (i := 7) (N := some 115) (v := ?_) (a' := ?_) #[true, true, true, true, true, true, true, true] rfl rfl (any_of HT_.out (by kernel_rfl)) (fun _ _ _ h => h) (Or.inl ⟨by rfl, ?_⟩) ?_ ?_
                            rotate_left
                            ·intro w'
                             go_simp
                             with_reducible rfl
                            rotate_left
                            ·simp only [Act.put, List.setIfInBounds_toArray, List.set_cons_zero, List.set_cons_succ, i64_w, i32_w]
                             rfl
                            refine done_ (done_of HT_.out (by kernel_rfl)) ?_
                            try go_wp2
                            go_roundg k8
                            case measure => have := HJ1.out; have := HK2.out; have := HK3.out; have := HJ24.out; have := HJ32.out; have := HK6.out; have := HJ39.out; have := HK8.out; omega
                            case rel => exact ⟨(wrap64 (x7_8 + 1)), (by first | rfl | (simp; done) | (simp [*]; done)), H', ⟨by have := HJ1.out; have := HK2.out; have := HK3.out; have := HJ24.out; have := HJ32.out; have := HK6.out; have := HJ39.out; have := HK8.out; omega⟩, ⟨by (with_reducible repeat (first | refine blk_drewN ?_ _ | refine blk_drew ?_ | refine blk_alloc ?_ _)); exact BK212.out⟩, ⟨by (with_reducible repeat (first | refine blk_drewN ?_ _ | refine blk_drew ?_ | refine blk_alloc ?_ _)); exact BK220.out⟩, ⟨by repeat (first | (with_reducible first | exact HB.out | apply below_alloc | apply pw_below_drewN | apply below_drew1 | refine below_set ?_ GE212.out | refine below_set ?_ GE220.out) | exact HB.out)⟩⟩
                           ·replace c55 := Bool.eq_false_iff.mpr c55
                            subst c55
                            have H1 : (some 3) = some r := by rw [if_neg (show ¬ (false = true) by decide)] at H; exact H
                            clear H
                            have H := H1
                            clear H1
                            obtain rfl := Option.some.inj H
                            have hnb60 := NB220_212.out
                            have hnc60 := NB212_220.out
                            have hcz61_0 : wr.cell? ⟨gb220, 0, none⟩ = some (.int .i64 ((rd_T38 l0_3 x5_6).f0)) := (blk_cell BK220.out 0).trans rfl
                            have hcz61_1 : wr.cell? ⟨gb220, 1, none⟩ = some (.slice A219_1 ((rd_T38 l0_3 x5_6).f1).length c219_1) := (blk_cell BK220.out 1).trans rfl
                            have hfz61_0 := blk_frozen BK220.out 0
                            have hfz61_1 := blk_frozen BK220.out 1
                            try go_wp2
                            have n0_ := Aside0.mk (blk_drew BK212.out)
                            have n1_ := Aside0.mk (blk_drew BK220.out)
                            have n2_ := Aside0.mk (below_drew1 HB.out)
                            clear BK212
                            clear BK220
                            clear HB
                            have BK212 := n0_
                            have BK220 := n1_
                            have HB := n2_
                            clear n0_ n1_ n2_
                            have p221 : 0 ≤ (x7_8 : Int) := of_decide_eq_true (by first | (with_reducible assumption) | assumption)
                            have q221 : x7_8 < (((rd_T38 l0_3 x5_6).f1).length : Int) := of_decide_eq_true (by first | (with_reducible assumption) | assumption)
                            obtain ⟨ad221, e221, hx221_0⟩ := Kd.at_int HR219_1.out x7_8 p221 q221
                            have hw221_0 := hx221_0
                            cases e221
                            replace hx221_0 := (HB.out.cell (World.block_lt_of_cell? w _ hx221_0)).trans hx221_0
                            replace p221 := eq_true p221
                            replace q221 := eq_true q221
                            refine start_ (n := 8) (S := fun w' => w'.cell? ⟨gb212, 0, none⟩ = some (.slice A0_0 l0_0.length c0_0) ∧ w'.cell? ⟨gb212, 1, none⟩ = some (.slice A0_1 l0_1.length c0_1) ∧ w'.cell? ⟨gb212, 2, none⟩ = some (.int .i64 a0_2) ∧ w'.cell? ⟨gb212, 3, none⟩ = some (.slice (some ad219) l0_3.length c0_3) ∧ w'.cell? ⟨gb220, 0, none⟩ = some (.int .i64 ((rd_T38 l0_3 x5_6).f0)) ∧ w'.cell? ⟨gb220, 1, none⟩ = some (.slice (some ad221) ((rd_T38 l0_3 x5_6).f1).length c219_1) ∧ w'.cell? (ad221.add (x7_8).toNat) = some (.int .i64 (rd ((rd_T38 l0_3 x5_6).f1) x7_8))) (ds := []) #[false, false, false, false, false, false, false, false] (by kernel_rfl) rfl rfl ⟨(blk_cell BK212.out 0).trans rfl, (blk_cell BK212.out 1).trans rfl, (blk_cell BK212.out 2).trans rfl, (blk_cell BK212.out 3).trans rfl, (blk_cell BK220.out 0).trans rfl, (blk_cell BK220.out 1).trans rfl, ((HB.out.cell (World.block_lt_of_cell? w _ hw221_0)).trans hw221_0)⟩ (fun hHeld => ?_); refine with_tabW wickerref02_Check.tab26 wickerref02_Check.bits26 (fun HT_ HW_ => ?_)
                            generalize wr.drew = w62 at BK212 BK220 HB hx221_0 hHeld ⊢
                            refine pure_ (i := 1) (N := some 109) (v := ?_) (a' := ?_) #[false, true, false, false, false, false, false, false] rfl rfl (any_of HT_.out (by kernel_rfl)) (fun _ _ _ h => h) (Or.inl ⟨by rfl, ?_⟩) ?_ ?_
                            rotate_left
                            ·intro w'
                             go_simp
                             with_reducible rfl
                            rotate_left
                            ·simp only [Act.put, List.setIfInBounds_toArray, List.set_cons_zero, List.set_cons_succ, i64_w, i32_w]
                             rfl
                            refine pure_ (i := 3) (N := some 111) (v := ?_) (a' := ?_) #[false, true, false, true, false, false, false, false] rfl rfl (any_of HT_.out (by kernel_rfl)) (fun _ _ _ h => h) (Or.inl ⟨by rfl, ?_⟩) ?_ ?_
                            rotate_left
                            ·intro w'
                             go_simp
                             with_reducible rfl
                            rotate_left
                            ·simp only [Act.put, List.setIfInBounds_toArray, List.set_cons_zero, List.set_cons_succ, i64_w, i32_w]
                             rfl
                            refine take_ (i := 0) (N := some 108) (v := ?_) (a' := ?_) #[true, true, false, true, false, false, false, false] rfl rfl (take_ofW HT_.out HW_.out (by kernel_rfl)) (fun _ _ _ h => h) (Or.inl ⟨by rfl, ?_⟩) hHeld ?_ ?_
                            rotate_left
                            ·rintro w' ⟨s0, s1, s2, s3, s4, s5, s6⟩
                             go_simp
                             with_reducible rfl
                            rotate_left
                            ·simp only [Act.put, List.setIfInBounds_toArray, List.set_cons_zero, List.set_cons_succ, i64_w, i32_w]
                             rfl
                            refine take_ (i := 2) (N := some 110) (v := ?_) (a' := ?_) #[true, true, true, true, false, false, false, false] rfl rfl (take_ofW HT_.out HW_.out (by kernel_rfl)) (fun _ _ _ h => h) (Or.inl ⟨by rfl, ?_⟩) hHeld ?_ ?_
                            rotate_left
                            ·rintro w' ⟨s0, s1, s2, s3, s4, s5, s6⟩
                             go_simp
                             with_reducible rfl
                            rotate_left
                            ·simp only [Act.put, List.setIfInBounds_toArray, List.set_cons_zero, List.set_cons_succ, i64_w, i32_w]
                             rfl
                            refine pure_ (i := 4) (N := some 112) (v := ?_) (a' := ?_) #[true, true, true, true, true, false, false, false] rfl rfl (any_of HT_.out (by kernel_rfl)) (fun _ _ _ h => h) (Or.inl ⟨by rfl, ?_⟩) ?_ ?_
                            rotate_left
                            ·intro w'
                             go_simp
                             with_reducible rfl
                            rotate_left
                            ·simp only [Act.put, List.setIfInBounds_toArray, List.set_cons_zero, List.set_cons_succ, i64_w, i32_w]
                             rfl
                            refine take_ (i := 5) (N := some 113) (v := ?_) (a' := ?_) #[true, true, true, true, true, true, false, false] rfl rfl (take_ofW HT_.out HW_.out (by kernel_rfl)) (fun _ _ _ h => h) (Or.inl ⟨by rfl, ?_⟩) hHeld ?_ ?_
                            rotate_left
                            ·rintro w' ⟨s0, s1, s2, s3, s4, s5, s6⟩
                             go_simp
                             with_reducible rfl
                            rotate_left
                            ·simp only [Act.put, List.setIfInBounds_toArray, List.set_cons_zero, List.set_cons_succ, i64_w, i32_w]
                             rfl
                            refine one_ (i := 6) (N := some 114) #[true, true, true, true, true, true, true, false] rfl rfl (one_of HT_.out (by kernel_rfl)) (by decide) (fun K hK => ?_)
                            refine goes_ Tryd.func83 (by kernel_rfl) rfl #[.agg #[.slice A0_0 l0_0.length c0_0, .slice A0_1 l0_1.length c0_1, .int .i64 a0_2, .slice (some ad219) l0_3.length c0_3], .int .i64 (rd ((rd_T38 l0_3 x5_6).f1) x7_8)] (by rfl) rfl rfl (by (try simp only [List.map_toArray, List.map_cons, List.map_nil]); first | done | rfl | (simp only [List.length_drop, List.length_take]; rfl)) ?_
                            with_reducible refine (wickerref02_Has.calls _ _ l0_0 _ _ l0_1 a0_2 _ _ l0_3 (rd ((rd_T38 l0_3 x5_6).f1) x7_8) false _ ?side1 ?side2 ?side3 ?side4 ?side5 ?side6 A54.out).mono ?_
                            (case side1 => repeat (first | exact (Kd.C_below HR0_0.out HB.out) | (with_reducible refine Kd.C_alloc ?_ _) | (with_reducible refine Kd.C_drewN ?_ _) | (with_reducible refine Kd.C_drew ?_)))
                            (case side2 => exact HC0_0.out)
                            (case side3 => repeat (first | exact (Kd.C_below HR0_1.out HB.out) | (with_reducible refine Kd.C_alloc ?_ _) | (with_reducible refine Kd.C_drewN ?_ _) | (with_reducible refine Kd.C_drew ?_)))
                            (case side4 => exact HC0_1.out)
                            (case side5 => repeat (first | exact (Kd.C_below HR0_3.out HB.out) | (with_reducible refine Kd.C_alloc ?_ _) | (with_reducible refine Kd.C_drewN ?_ _) | (with_reducible refine Kd.C_drew ?_)))
                            (case side6 => exact HC0_3.out)
                            rintro e w63 ⟨rfl, hb⟩
                            refine ⟨_, rfl, ?_⟩
                            have n0_ := Aside0.mk (blk_below (g := gb212) (o := .cells #[.slice A0_0 l0_0.length c0_0, .slice A0_1 l0_1.length c0_1, .int .i64 a0_2, .slice (some ad219) l0_3.length c0_3] 30 (0, 0)) (by (with_reducible repeat (first | refine blk_drewN ?_ _ | refine blk_drew ?_ | refine blk_alloc ?_ _)); exact BK212.out) hb)
                            have n1_ := Aside0.mk (blk_below (g := gb220) (o := .cells #[.int .i64 ((rd_T38 l0_3 x5_6).f0), .slice (some ad221) ((rd_T38 l0_3 x5_6).f1).length c219_1] 38 (0, 0)) (by (with_reducible repeat (first | refine blk_drewN ?_ _ | refine blk_drew ?_ | refine blk_alloc ?_ _)); exact BK220.out) hb)
                            have n2_ := Aside0.mk (below_step (by repeat (first | (with_reducible first | exact HB.out | apply below_alloc | apply pw_below_drewN | apply below_drew1 | refine below_set ?_ GE212.out | refine below_set ?_ GE220.out) | exact HB.out)) hb)
                            clear BK212
                            clear BK220
                            clear HB
                            have BK212 := n0_
                            have BK220 := n1_
                            have HB := n2_
                            clear n0_ n1_ n2_
                            (try clear hb)
                            (try clear hb2)
                            (try clear hk)
                            (try clear hi)
                            refine hK.out _ _ ⟨(blk_cell BK212.out 0).trans rfl, (blk_cell BK212.out 1).trans rfl, (blk_cell BK212.out 2).trans rfl, (blk_cell BK212.out 3).trans rfl, (blk_cell BK220.out 0).trans rfl, (blk_cell BK220.out 1).trans rfl, ((HB.out.cell (World.block_lt_of_cell? w _ hw221_0)).trans hw221_0)⟩ (fun hHeld => ?_)
                            clear hK K
                            refine norm_ (a' := ?_) ?_ ?_
                            rotate_left
                            ·show Act.put _ (some 114) _ = _
                             simp only [Act.put, List.setIfInBounds_toArray, List.set_cons_zero, List.set_cons_succ, i64_w, i32_w]
                             rfl
                            refine pure_ (i := 7) (N := some 115) (v := ?_) (a' := ?_) #[true, true, true, true, true, true, true, true] rfl rfl (any_of HT_.out (by kernel_rfl)) (fun _ _ _ h => h) (Or.inl ⟨by rfl, ?_⟩) ?_ ?_
                            rotate_left
                            ·intro w'
                             go_simp
                             with_reducible rfl
                            rotate_left
                            ·simp only [Act.put, List.setIfInBounds_toArray, List.set_cons_zero, List.set_cons_succ, i64_w, i32_w]
                             rfl
                            refine done_ (done_of HT_.out (by kernel_rfl)) ?_
                            try go_wp2
                            go_ret
                            exact ⟨by first | rfl | (simp [errW_none, errW_some] <;> rfl) | (simp [*, errW_none, errW_some] <;> rfl), by repeat (first | (with_reducible first | exact HB.out | apply below_alloc | apply pw_below_drewN | apply below_drew1 | refine below_set ?_ GE212.out | refine below_set ?_ GE220.out) | exact HB.out)⟩
                          ·rw [if_neg c53] at H
                           exact absurd H (by simp)
                         ·rw [if_neg c52] at H
                          have c52b0 : decide (x7_8 < (((rd_T38 l0_3 x5_6).f1).length : Int)) = false := decide_eq_false c52
                          clear c52
                          by_cases c64 : (((rd_T38 l0_3 x5_6).f1).length : Int) > 64
                          ·rw [if_pos c64] at H
                           have c64b0 : decide (64 < (((rd_T38 l0_3 x5_6).f1).length : Int)) = true := decide_eq_true c64
                           have c64b1 : decide (64 < ((rd_T38 l0_3 x5_6).f1).length) = true := decide_eq_true (by omega)
                           clear c64
                           obtain rfl := Option.some.inj H
                           have hnb65 := NB220_212.out
                           have hnc65 := NB212_220.out
                           have hcz66_0 : wr.cell? ⟨gb220, 0, none⟩ = some (.int .i64 ((rd_T38 l0_3 x5_6).f0)) := (blk_cell BK220.out 0).trans rfl
                           have hcz66_1 : wr.cell? ⟨gb220, 1, none⟩ = some (.slice A219_1 ((rd_T38 l0_3 x5_6).f1).length c219_1) := (blk_cell BK220.out 1).trans rfl
                           have hfz66_0 := blk_frozen BK220.out 0
                           have hfz66_1 := blk_frozen BK220.out 1
                           go_wp2
                           go_ret
                           exact ⟨by first | rfl | (simp [errW_none, errW_some] <;> rfl) | (simp [*, errW_none, errW_some] <;> rfl), by repeat (first | (with_reducible first | exact HB.out | apply below_alloc | apply pw_below_drewN | apply below_drew1 | refine below_set ?_ GE212.out | refine below_set ?_ GE220.out) | exact HB.out)⟩
                          ·rw [if_neg c64] at H
                           have c64b0 : decide (64 < (((rd_T38 l0_3 x5_6).f1).length : Int)) = false := decide_eq_false c64
                           have c64b1 : decide (64 < ((rd_T38 l0_3 x5_6).f1).length) = false := decide_eq_false (by omega)
                           clear c64
                           have H' := Aside0.mk H
                           clear H
                           have hnb67 := NB220_212.out
                           have hnc67 := NB212_220.out
                           have hcz68_0 : wr.cell? ⟨gb220, 0, none⟩ = some (.int .i64 ((rd_T38 l0_3 x5_6).f0)) := (blk_cell BK220.out 0).trans rfl
                           have hcz68_1 : wr.cell? ⟨gb220, 1, none⟩ = some (.slice A219_1 ((rd_T38 l0_3 x5_6).f1).length c219_1) := (blk_cell BK220.out 1).trans rfl
                           have hfz68_0 := blk_frozen BK220.out 0
                           have hfz68_1 := blk_frozen BK220.out 1
                           go_wp2
                           go_roundg k8
                           case measure => have := HJ1.out; have := HK2.out; have := HK3.out; have := HJ24.out; have := HJ32.out; have := HK6.out; have := HJ39.out; have := HK8.out; omega
                           case rel => exact ⟨(wrap64 (x5_6 + 1)), (by first | rfl | (simp; done) | (simp [*]; done)), H', ⟨by have := HJ1.out; have := HK2.out; have := HK3.out; have := HJ24.out; have := HJ32.out; have := HK6.out; have := HJ39.out; have := HK8.out; omega⟩, ⟨by (with_reducible repeat (first | refine blk_drewN ?_ _ | refine blk_drew ?_ | refine blk_alloc ?_ _)); exact BK212.out⟩, ⟨by repeat (first | (with_reducible first | exact HB.out | apply below_alloc | apply pw_below_drewN | apply below_drew1 | refine below_set ?_ GE212.out | refine below_set ?_ GE220.out) | exact HB.out)⟩⟩
                   ·rw [if_neg c39] at H
                    exact absurd H (by simp)
                  ·rw [if_neg c38] at H
                   have c38b0 : decide (x5_6 < (l0_3.length : Int)) = false := decide_eq_false c38
                   clear c38
                   have H' := Aside0.mk H
                   clear H
                   have hcz69_0 : wr.cell? ⟨gb212, 0, none⟩ = some (.slice A0_0 l0_0.length c0_0) := (blk_cell BK212.out 0).trans rfl
                   have hcz69_1 : wr.cell? ⟨gb212, 1, none⟩ = some (.slice A0_1 l0_1.length c0_1) := (blk_cell BK212.out 1).trans rfl
                   have hcz69_2 : wr.cell? ⟨gb212, 2, none⟩ = some (.int .i64 a0_2) := (blk_cell BK212.out 2).trans rfl
                   have hcz69_3 : wr.cell? ⟨gb212, 3, none⟩ = some (.slice A0_3 l0_3.length c0_3) := (blk_cell BK212.out 3).trans rfl
                   have hfz69_0 := blk_frozen BK212.out 0
                   have hfz69_1 := blk_frozen BK212.out 1
                   have hfz69_2 := blk_frozen BK212.out 2
                   have hfz69_3 := blk_frozen BK212.out 3
                   go_wp2
                   go_loopg [8] k6 (fun kq v8 w' => ∃ (x8_7 : Int), v8 = .int .i64 x8_7 ∧ Aside0 (wickerref02_Check.l4 kq x8_7 l0_0 l0_1 a0_2 l0_3 = some r) ∧ Aside0 (kq ≤ k6) ∧ Aside0 (w'.heap[gb212]? = some (.cells #[(.slice A0_0 l0_0.length c0_0), (.slice A0_1 l0_1.length c0_1), .int .i64 a0_2, (.slice A0_3 l0_3.length c0_3)] 30 (0, 0))) ∧ Aside0 (Below w.heap.size w w'))
                   case atStart => exact ⟨(0), (by first | rfl | (simp; done) | (simp [*]; done)), H', ⟨Nat.le_refl _⟩, ⟨by (with_reducible repeat (first | refine blk_drewN ?_ _ | refine blk_drew ?_ | refine blk_alloc ?_ _)); exact BK212.out⟩, ⟨by repeat (first | (with_reducible first | exact HB.out | apply below_alloc | apply pw_below_drewN | apply below_drew1 | refine below_set ?_ GE212.out) | exact HB.out)⟩⟩
                   case round =>
                    clear H'
                    try clear c1
                    try clear c2
                    try clear p2
                    try clear q2
                    try clear hx2
                    try clear c3
                    try clear c4
                    try clear c4b0
                    try clear c4b1
                    try clear c5
                    try clear c6
                    try clear c6b0
                    try clear c6b1
                    try clear p6
                    try clear c8
                    try clear c8b0
                    try clear c8b1
                    try clear c11
                    try clear c12
                    try clear c12b0
                    try clear c13
                    try clear c13b0
                    try clear c15
                    try clear c19
                    try clear c19b0
                    try clear c20
                    try clear c20b0
                    try clear c21
                    try clear p21
                    try clear q21
                    try clear hx21
                    try clear c22
                    try clear p22
                    try clear q22
                    try clear hx22
                    try clear c28
                    try clear c32
                    try clear c34
                    try clear c34b0
                    try clear c37
                    try clear c38
                    try clear c38b0
                    try clear c39
                    try clear c39b0
                    try clear c43
                    try clear c45
                    try clear c45b0
                    try clear c46
                    try clear c48
                    try clear c51
                    try clear c52
                    try clear c52b0
                    try clear c53
                    try clear c53b0
                    try clear c55
                    try clear c56
                    try clear c60
                    try clear c64
                    try clear c64b0
                    try clear c64b1
                    try clear p64
                    try clear c65
                    try clear c67
                    try clear hcz10_0
                    try clear hcz10_1
                    try clear hcz10_2
                    try clear hcz10_3
                    try clear hcz16_0
                    try clear hcz16_1
                    try clear hcz16_2
                    try clear hcz16_3
                    try clear hcz17_0
                    try clear hcz17_1
                    try clear hcz17_2
                    try clear hcz17_3
                    try clear hcz18_0
                    try clear hcz18_1
                    try clear hcz18_2
                    try clear hcz18_3
                    try clear hcz23_0
                    try clear hcz23_1
                    try clear hcz23_2
                    try clear hcz23_3
                    try clear hcz24_0
                    try clear hcz24_1
                    try clear hcz24_2
                    try clear hcz24_3
                    try clear hcz26_0
                    try clear hcz26_1
                    try clear hcz26_2
                    try clear hcz26_3
                    try clear hcz29_0
                    try clear hcz29_1
                    try clear hcz29_2
                    try clear hcz29_3
                    try clear hcz31_0
                    try clear hcz31_1
                    try clear hcz31_2
                    try clear hcz31_3
                    try clear hcz35_0
                    try clear hcz35_1
                    try clear hcz35_2
                    try clear hcz35_3
                    try clear hcz36_0
                    try clear hcz36_1
                    try clear hcz36_2
                    try clear hcz36_3
                    try clear hcz41_0
                    try clear hcz41_1
                    try clear hcz41_2
                    try clear hcz41_3
                    try clear hcz44_0
                    try clear hcz44_1
                    try clear hcz47_0
                    try clear hcz47_1
                    try clear hcz49_0
                    try clear hcz49_1
                    try clear hcz50_0
                    try clear hcz50_1
                    try clear hcz50_2
                    try clear hcz50_3
                    try clear hcz57_0
                    try clear hcz57_1
                    try clear hcz5_0
                    try clear hcz5_1
                    try clear hcz5_2
                    try clear hcz5_3
                    try clear hcz61_0
                    try clear hcz61_1
                    try clear hcz66_0
                    try clear hcz66_1
                    try clear hcz68_0
                    try clear hcz68_1
                    try clear hcz69_0
                    try clear hcz69_1
                    try clear hcz69_2
                    try clear hcz69_3
                    try clear hcz7_0
                    try clear hcz7_1
                    try clear hcz7_2
                    try clear hcz7_3
                    try clear hcz9_0
                    try clear hcz9_1
                    try clear hcz9_2
                    try clear hcz9_3
                    try clear hfz10_0
                    try clear hfz10_1
                    try clear hfz10_2
                    try clear hfz10_3
                    try clear hfz16_0
                    try clear hfz16_1
                    try clear hfz16_2
                    try clear hfz16_3
                    try clear hfz17_0
                    try clear hfz17_1
                    try clear hfz17_2
                    try clear hfz17_3
                    try clear hfz18_0
                    try clear hfz18_1
                    try clear hfz18_2
                    try clear hfz18_3
                    try clear hfz23_0
                    try clear hfz23_1
                    try clear hfz23_2
                    try clear hfz23_3
                    try clear hfz24_0
                    try clear hfz24_1
                    try clear hfz24_2
                    try clear hfz24_3
                    try clear hfz26_0
                    try clear hfz26_1
                    try clear hfz26_2
                    try clear hfz26_3
                    try clear hfz29_0
                    try clear hfz29_1
                    try clear hfz29_2
                    try clear hfz29_3
                    try clear hfz31_0
                    try clear hfz31_1
                    try clear hfz31_2
                    try clear hfz31_3
                    try clear hfz35_0
                    try clear hfz35_1
                    try clear hfz35_2
                    try clear hfz35_3
                    try clear hfz36_0
                    try clear hfz36_1
                    try clear hfz36_2
                    try clear hfz36_3
                    try clear hfz41_0
                    try clear hfz41_1
                    try clear hfz41_2
                    try clear hfz41_3
                    try clear hfz44_0
                    try clear hfz44_1
                    try clear hfz47_0
                    try clear hfz47_1
                    try clear hfz49_0
                    try clear hfz49_1
                    try clear hfz50_0
                    try clear hfz50_1
                    try clear hfz50_2
                    try clear hfz50_3
                    try clear hfz57_0
                    try clear hfz57_1
                    try clear hfz5_0
                    try clear hfz5_1
                    try clear hfz5_2
                    try clear hfz5_3
                    try clear hfz61_0
                    try clear hfz61_1
                    try clear hfz66_0
                    try clear hfz66_1
                    try clear hfz68_0
                    try clear hfz68_1
                    try clear hfz69_0
                    try clear hfz69_1
                    try clear hfz69_2
                    try clear hfz69_3
                    try clear hfz7_0
                    try clear hfz7_1
                    try clear hfz7_2
                    try clear hfz7_3
                    try clear hfz9_0
                    try clear hfz9_1
                    try clear hfz9_2
                    try clear hfz9_3
                    try clear hx213_0
                    try clear hx215_0
                    try clear hx219_0
                    try clear hx219_1
                    try clear hx221_0
                    try clear p2
                    try clear p21
                    try clear p213
                    try clear p215
                    try clear p219
                    try clear p221
                    try clear p6
                    try clear q2
                    try clear q21
                    try clear q213
                    try clear q215
                    try clear q219
                    try clear q221
                    obtain ⟨x8_7, rfl, HA, HK7, BK212, HB⟩ := hrel
                    cases gk with
                    | zero => exact absurd HA.out (by simp [wickerref02_Check.l4])
                    | succ k7 =>
                     have H := HA.out
                     clear HA
                     simp only [wickerref02_Check.l4] at H
                     by_cases c70 : x8_7 < (l0_3.length : Int)
                     ·rw [if_pos c70] at H
                      have c70b0 : decide (x8_7 < (l0_3.length : Int)) = true := decide_eq_true c70
                      clear c70
                      by_cases c71 : 0 ≤ x8_7
                      ·rw [if_pos c71] at H
                       have c71b0 : decide (0 ≤ x8_7) = true := decide_eq_true c71
                       clear c71
                       replace H := Option.bind_eq_some_iff.mp H
                       obtain ⟨t224, A720, H⟩ := H
                       replace H : (if t224 < x8_7 then (some 2) else (wickerref02_Check.l4 k7 (wrap64 (x8_7 + 1)) l0_0 l0_1 a0_2 l0_3)) = some r := H
                       have A72 := Aside0.mk A720
                       clear A720
                       by_cases c73 : t224 < x8_7
                       ·rw [if_pos c73] at H
                        have c73b0 : decide (t224 < x8_7) = true := decide_eq_true c73
                        clear c73
                        obtain rfl := Option.some.inj H
                        have hcz74_0 : wr.cell? ⟨gb212, 0, none⟩ = some (.slice A0_0 l0_0.length c0_0) := (blk_cell BK212.out 0).trans rfl
                        have hcz74_1 : wr.cell? ⟨gb212, 1, none⟩ = some (.slice A0_1 l0_1.length c0_1) := (blk_cell BK212.out 1).trans rfl
                        have hcz74_2 : wr.cell? ⟨gb212, 2, none⟩ = some (.int .i64 a0_2) := (blk_cell BK212.out 2).trans rfl
                        have hcz74_3 : wr.cell? ⟨gb212, 3, none⟩ = some (.slice A0_3 l0_3.length c0_3) := (blk_cell BK212.out 3).trans rfl
                        have hfz74_0 := blk_frozen BK212.out 0
                        have hfz74_1 := blk_frozen BK212.out 1
                        have hfz74_2 := blk_frozen BK212.out 2
                        have hfz74_3 := blk_frozen BK212.out 3
                        try go_wp2
                        have n0_ := Aside0.mk (blk_drew BK212.out)
                        have n1_ := Aside0.mk (below_drew1 HB.out)
                        clear BK212
                        clear HB
                        have BK212 := n0_
                        have HB := n1_
                        clear n0_ n1_
                        have p223 : 0 ≤ (x8_7 : Int) := of_decide_eq_true (by first | (with_reducible assumption) | assumption)
                        have q223 : x8_7 < (l0_3.length : Int) := of_decide_eq_true (by first | (with_reducible assumption) | assumption)
                        obtain ⟨ad223, A223_1, c223_1, e223, hx223_0, hx223_1, hl223_1, hi223_1⟩ := at_T38 HR0_3.out x8_7 p223 q223
                        have hw223_1 := hx223_1
                        have hw223_0 := hx223_0
                        cases e223
                        replace hx223_0 := (HB.out.cell (World.block_lt_of_cell? w _ hx223_0)).trans hx223_0
                        replace hx223_1 := (HB.out.cell (World.block_lt_of_cell? w _ hx223_1)).trans hx223_1
                        have HR223_1 := Aside0.mk hi223_1
                        have HC223_1 := Aside0.mk hl223_1
                        clear hi223_1 hl223_1
                        replace p223 := eq_true p223
                        replace q223 := eq_true q223
                        refine start_ (n := 10) (S := fun w' => w'.cell? ⟨gb212, 0, none⟩ = some (.slice A0_0 l0_0.length c0_0) ∧ w'.cell? ⟨gb212, 1, none⟩ = some (.slice A0_1 l0_1.length c0_1) ∧ w'.cell? ⟨gb212, 2, none⟩ = some (.int .i64 a0_2) ∧ w'.cell? ⟨gb212, 3, none⟩ = some (.slice (some ad223) l0_3.length c0_3) ∧ w'.cell? (ad223.add ((x8_7).toNat * 2)) = some (.int .i64 ((rd_T38 l0_3 x8_7).f0)) ∧ w'.cell? ⟨(ad223.add ((x8_7).toNat * 2)).block, (ad223.add ((x8_7).toNat * 2)).off + 1, none⟩ = some (.slice A223_1 ((rd_T38 l0_3 x8_7).f1).length c223_1)) (ds := []) #[false, false, false, false, false, false, false, false, false, false] (by kernel_rfl) rfl rfl ⟨(blk_cell BK212.out 0).trans rfl, (blk_cell BK212.out 1).trans rfl, (blk_cell BK212.out 2).trans rfl, (blk_cell BK212.out 3).trans rfl, ((HB.out.cell (World.block_lt_of_cell? w _ hw223_0)).trans hw223_0), ((HB.out.cell (World.block_lt_of_cell? w _ hw223_1)).trans hw223_1)⟩ (fun hHeld => ?_); refine with_tabW wickerref02_Check.tab33 wickerref02_Check.bits33 (fun HT_ HW_ => ?_)
                        generalize wr.drew = w75 at BK212 HB HR223_1 hx223_0 hx223_1 hHeld ⊢
                        refine pure_ (i := 0) (N := some 127) (v := ?_) (a' := ?_) #[true, false, false, false, false, false, false, false, false, false] rfl rfl (any_of HT_.out (by kernel_rfl)) (fun _ _ _ h => h) (Or.inl ⟨by rfl, ?_⟩) ?_ ?_
                        rotate_left
                        ·intro w'
                         go_simp
                         with_reducible rfl
                        rotate_left
                        ·simp only [Act.put, List.setIfInBounds_toArray, List.set_cons_zero, List.set_cons_succ, i64_w, i32_w]
                         rfl
                        refine pure_ (i := 2) (N := some 129) (v := ?_) (a' := ?_) #[true, false, true, false, false, false, false, false, false, false] rfl rfl (any_of HT_.out (by kernel_rfl)) (fun _ _ _ h => h) (Or.inl ⟨by rfl, ?_⟩) ?_ ?_
                        rotate_left
                        ·intro w'
                         go_simp
                         with_reducible rfl
                        rotate_left
                        ·simp only [Act.put, List.setIfInBounds_toArray, List.set_cons_zero, List.set_cons_succ, i64_w, i32_w]
                         rfl
                        refine pure_ (i := 4) (N := some 131) (v := ?_) (a' := ?_) #[true, false, true, false, true, false, false, false, false, false] rfl rfl (any_of HT_.out (by kernel_rfl)) (fun _ _ _ h => h) (Or.inl ⟨by rfl, ?_⟩) ?_ ?_
                        rotate_left
                        ·intro w'
                         go_simp
                         with_reducible rfl
                        rotate_left
                        ·simp only [Act.put, List.setIfInBounds_toArray, List.set_cons_zero, List.set_cons_succ, i64_w, i32_w]
                         rfl
                        refine pure_ (i := 8) (N := some 135) (v := ?_) (a' := ?_) #[true, false, true, false, true, false, false, false, true, false] rfl rfl (any_of HT_.out (by kernel_rfl)) (fun _ _ _ h => h) (Or.inl ⟨by rfl, ?_⟩) ?_ ?_
                        rotate_left
                        ·intro w'
                         go_simp
                         with_reducible rfl
                        rotate_left
                        ·simp only [Act.put, List.setIfInBounds_toArray, List.set_cons_zero, List.set_cons_succ, i64_w, i32_w]
                         rfl
                        refine take_ (i := 1) (N := some 128) (v := ?_) (a' := ?_) #[true, true, true, false, true, false, false, false, true, false] rfl rfl (take_ofW HT_.out HW_.out (by kernel_rfl)) (fun _ _ _ h => h) (Or.inl ⟨by rfl, ?_⟩) hHeld ?_ ?_
                        rotate_left
                        ·rintro w' ⟨s0, s1, s2, s3, s4, s5⟩
                         go_simp
                         with_reducible rfl
                        rotate_left
                        ·simp only [Act.put, List.setIfInBounds_toArray, List.set_cons_zero, List.set_cons_succ, i64_w, i32_w]
                         rfl
                        refine take_ (i := 3) (N := some 130) (v := ?_) (a' := ?_) #[true, true, true, true, true, false, false, false, true, false] rfl rfl (take_ofW HT_.out HW_.out (by kernel_rfl)) (fun _ _ _ h => h) (Or.inl ⟨by rfl, ?_⟩) hHeld ?_ ?_
                        rotate_left
                        ·rintro w' ⟨s0, s1, s2, s3, s4, s5⟩
                         go_simp
                         with_reducible rfl
                        rotate_left
                        ·simp only [Act.put, List.setIfInBounds_toArray, List.set_cons_zero, List.set_cons_succ, i64_w, i32_w]
                         rfl
                        refine pure_ (i := 5) (N := some 132) (v := ?_) (a' := ?_) #[true, true, true, true, true, true, false, false, true, false] rfl rfl (any_of HT_.out (by kernel_rfl)) (fun _ _ _ h => h) (Or.inl ⟨by rfl, ?_⟩) ?_ ?_
                        rotate_left
                        ·intro w'
                         go_simp
                         with_reducible rfl
                        rotate_left
                        ·simp only [Act.put, List.setIfInBounds_toArray, List.set_cons_zero, List.set_cons_succ, i64_w, i32_w]
                         rfl
                        refine take_ (i := 6) (N := some 133) (v := ?_) (a' := ?_) #[true, true, true, true, true, true, true, false, true, false] rfl rfl (take_ofW HT_.out HW_.out (by kernel_rfl)) (fun _ _ _ h => h) (Or.inl ⟨by rfl, ?_⟩) hHeld ?_ ?_
                        rotate_left
                        ·rintro w' ⟨s0, s1, s2, s3, s4, s5⟩
                         go_simp
                         with_reducible rfl
                        rotate_left
                        ·simp only [Act.put, List.setIfInBounds_toArray, List.set_cons_zero, List.set_cons_succ, i64_w, i32_w]
                         rfl
                        refine one_ (i := 7) (N := some 134) #[true, true, true, true, true, true, true, true, true, false] rfl rfl (one_of HT_.out (by kernel_rfl)) (by decide) (fun K hK => ?_)
                        refine goes_ Tryd.func22 (by kernel_rfl) rfl #[.slice (some ad223) l0_3.length c0_3, .agg #[.int .i64 ((rd_T38 l0_3 x8_7).f0), .slice A223_1 ((rd_T38 l0_3 x8_7).f1).length c223_1]] (by rfl) rfl rfl (by (try simp only [List.map_toArray, List.map_cons, List.map_nil]); first | done | rfl | (simp only [List.length_drop, List.length_take]; rfl)) ?_
                        with_reducible refine (wickerref02_Find.calls k7 _ _ l0_3 ((rd_T38 l0_3 x8_7).f0) _ _ ((rd_T38 l0_3 x8_7).f1) t224 _ ?side1 ?side2 ?side3 ?side4 A72.out).mono ?_
                        (case side1 => repeat (first | exact (Kd.C_below HR0_3.out HB.out) | (with_reducible refine Kd.C_alloc ?_ _) | (with_reducible refine Kd.C_drewN ?_ _) | (with_reducible refine Kd.C_drew ?_)))
                        (case side2 => exact HC0_3.out)
                        (case side3 => repeat (first | exact (Kd.C_below HR223_1.out HB.out) | (with_reducible refine Kd.C_alloc ?_ _) | (with_reducible refine Kd.C_drewN ?_ _) | (with_reducible refine Kd.C_drew ?_)))
                        (case side4 => exact HC223_1.out)
                        rintro e w76 ⟨rfl, hb⟩
                        refine ⟨_, rfl, ?_⟩
                        have n0_ := Aside0.mk (blk_below (g := gb212) (o := .cells #[.slice A0_0 l0_0.length c0_0, .slice A0_1 l0_1.length c0_1, .int .i64 a0_2, .slice (some ad223) l0_3.length c0_3] 30 (0, 0)) (by (with_reducible repeat (first | refine blk_drewN ?_ _ | refine blk_drew ?_ | refine blk_alloc ?_ _)); exact BK212.out) hb)
                        have n1_ := Aside0.mk (below_step (by repeat (first | (with_reducible first | exact HB.out | apply below_alloc | apply pw_below_drewN | apply below_drew1 | refine below_set ?_ GE212.out) | exact HB.out)) hb)
                        clear BK212
                        clear HB
                        have BK212 := n0_
                        have HB := n1_
                        clear n0_ n1_
                        (try clear hb)
                        (try clear hb2)
                        (try clear hk)
                        (try clear hi)
                        refine hK.out _ _ ⟨(blk_cell BK212.out 0).trans rfl, (blk_cell BK212.out 1).trans rfl, (blk_cell BK212.out 2).trans rfl, (blk_cell BK212.out 3).trans rfl, ((HB.out.cell (World.block_lt_of_cell? w _ hw223_0)).trans hw223_0), ((HB.out.cell (World.block_lt_of_cell? w _ hw223_1)).trans hw223_1)⟩ (fun hHeld => ?_)
                        clear hK K
                        refine norm_ (a' := ?_) ?_ ?_
                        rotate_left
                        ·show Act.put _ (some 134) _ = _
                         simp only [Act.put, List.setIfInBounds_toArray, List.set_cons_zero, List.set_cons_succ, i64_w, i32_w]
                         rfl
                        refine pure_ (i := 9) (N := some 136) (v := ?_) (a' := ?_) #[true, true, true, true, true, true, true, true, true, true] rfl rfl (any_of HT_.out (by kernel_rfl)) (fun _ _ _ h => h) (Or.inl ⟨by rfl, ?_⟩) ?_ ?_
                        rotate_left
                        ·intro w'
                         go_simp
                         with_reducible rfl
                        rotate_left
                        ·simp only [Act.put, List.setIfInBounds_toArray, List.set_cons_zero, List.set_cons_succ, i64_w, i32_w]
                         rfl
                        refine done_ (done_of HT_.out (by kernel_rfl)) ?_
                        try go_wp2
                        go_ret
                        exact ⟨by first | rfl | (simp [errW_none, errW_some] <;> rfl) | (simp [*, errW_none, errW_some] <;> rfl), by repeat (first | (with_reducible first | exact HB.out | apply below_alloc | apply pw_below_drewN | apply below_drew1 | refine below_set ?_ GE212.out) | exact HB.out)⟩
                       ·rw [if_neg c73] at H
                        have c73b0 : decide (t224 < x8_7) = false := decide_eq_false c73
                        clear c73
                        have H' := Aside0.mk H
                        clear H
                        have hcz77_0 : wr.cell? ⟨gb212, 0, none⟩ = some (.slice A0_0 l0_0.length c0_0) := (blk_cell BK212.out 0).trans rfl
                        have hcz77_1 : wr.cell? ⟨gb212, 1, none⟩ = some (.slice A0_1 l0_1.length c0_1) := (blk_cell BK212.out 1).trans rfl
                        have hcz77_2 : wr.cell? ⟨gb212, 2, none⟩ = some (.int .i64 a0_2) := (blk_cell BK212.out 2).trans rfl
                        have hcz77_3 : wr.cell? ⟨gb212, 3, none⟩ = some (.slice A0_3 l0_3.length c0_3) := (blk_cell BK212.out 3).trans rfl
                        have hfz77_0 := blk_frozen BK212.out 0
                        have hfz77_1 := blk_frozen BK212.out 1
                        have hfz77_2 := blk_frozen BK212.out 2
                        have hfz77_3 := blk_frozen BK212.out 3
                        try go_wp2
                        have n0_ := Aside0.mk (blk_drew BK212.out)
                        have n1_ := Aside0.mk (below_drew1 HB.out)
                        clear BK212
                        clear HB
                        have BK212 := n0_
                        have HB := n1_
                        clear n0_ n1_
                        have p223 : 0 ≤ (x8_7 : Int) := of_decide_eq_true (by first | (with_reducible assumption) | assumption)
                        have q223 : x8_7 < (l0_3.length : Int) := of_decide_eq_true (by first | (with_reducible assumption) | assumption)
                        obtain ⟨ad223, A223_1, c223_1, e223, hx223_0, hx223_1, hl223_1, hi223_1⟩ := at_T38 HR0_3.out x8_7 p223 q223
                        have hw223_1 := hx223_1
                        have hw223_0 := hx223_0
                        cases e223
                        replace hx223_0 := (HB.out.cell (World.block_lt_of_cell? w _ hx223_0)).trans hx223_0
                        replace hx223_1 := (HB.out.cell (World.block_lt_of_cell? w _ hx223_1)).trans hx223_1
                        have HR223_1 := Aside0.mk hi223_1
                        have HC223_1 := Aside0.mk hl223_1
                        clear hi223_1 hl223_1
                        replace p223 := eq_true p223
                        replace q223 := eq_true q223
                        refine start_ (n := 10) (S := fun w' => w'.cell? ⟨gb212, 0, none⟩ = some (.slice A0_0 l0_0.length c0_0) ∧ w'.cell? ⟨gb212, 1, none⟩ = some (.slice A0_1 l0_1.length c0_1) ∧ w'.cell? ⟨gb212, 2, none⟩ = some (.int .i64 a0_2) ∧ w'.cell? ⟨gb212, 3, none⟩ = some (.slice (some ad223) l0_3.length c0_3) ∧ w'.cell? (ad223.add ((x8_7).toNat * 2)) = some (.int .i64 ((rd_T38 l0_3 x8_7).f0)) ∧ w'.cell? ⟨(ad223.add ((x8_7).toNat * 2)).block, (ad223.add ((x8_7).toNat * 2)).off + 1, none⟩ = some (.slice A223_1 ((rd_T38 l0_3 x8_7).f1).length c223_1)) (ds := []) #[false, false, false, false, false, false, false, false, false, false] (by kernel_rfl) rfl rfl ⟨(blk_cell BK212.out 0).trans rfl, (blk_cell BK212.out 1).trans rfl, (blk_cell BK212.out 2).trans rfl, (blk_cell BK212.out 3).trans rfl, ((HB.out.cell (World.block_lt_of_cell? w _ hw223_0)).trans hw223_0), ((HB.out.cell (World.block_lt_of_cell? w _ hw223_1)).trans hw223_1)⟩ (fun hHeld => ?_); refine with_tabW wickerref02_Check.tab33 wickerref02_Check.bits33 (fun HT_ HW_ => ?_)
                        generalize wr.drew = w78 at BK212 HB HR223_1 hx223_0 hx223_1 hHeld ⊢
                        refine pure_ (i := 0) (N := some 127) (v := ?_) (a' := ?_) #[true, false, false, false, false, false, false, false, false, false] rfl rfl (any_of HT_.out (by kernel_rfl)) (fun _ _ _ h => h) (Or.inl ⟨by rfl, ?_⟩) ?_ ?_
                        rotate_left
                        ·intro w'
                         go_simp
                         with_reducible rfl
                        rotate_left
                        ·simp only [Act.put, List.setIfInBounds_toArray, List.set_cons_zero, List.set_cons_succ, i64_w, i32_w]
                         rfl
                        refine pure_ (i := 2) (N := some 129) (v := ?_) (a' := ?_) #[true, false, true, false, false, false, false, false, false, false] rfl rfl (any_of HT_.out (by kernel_rfl)) (fun _ _ _ h => h) (Or.inl ⟨by rfl, ?_⟩) ?_ ?_
                        rotate_left
                        ·intro w'
                         go_simp
                         with_reducible rfl
                        rotate_left
                        ·simp only [Act.put, List.setIfInBounds_toArray, List.set_cons_zero, List.set_cons_succ, i64_w, i32_w]
                         rfl
                        refine pure_ (i := 4) (N := some 131) (v := ?_) (a' := ?_) #[true, false, true, false, true, false, false, false, false, false] rfl rfl (any_of HT_.out (by kernel_rfl)) (fun _ _ _ h => h) (Or.inl ⟨by rfl, ?_⟩) ?_ ?_
                        rotate_left
                        ·intro w'
                         go_simp
                         with_reducible rfl
                        rotate_left
                        ·simp only [Act.put, List.setIfInBounds_toArray, List.set_cons_zero, List.set_cons_succ, i64_w, i32_w]
                         rfl
                        refine pure_ (i := 8) (N := some 135) (v := ?_) (a' := ?_) #[true, false, true, false, true, false, false, false, true, false] rfl rfl (any_of HT_.out (by kernel_rfl)) (fun _ _ _ h => h) (Or.inl ⟨by rfl, ?_⟩) ?_ ?_
                        rotate_left
                        ·intro w'
                         go_simp
                         with_reducible rfl
                        rotate_left
                        ·simp only [Act.put, List.setIfInBounds_toArray, List.set_cons_zero, List.set_cons_succ, i64_w, i32_w]
                         rfl
                        refine take_ (i := 1) (N := some 128) (v := ?_) (a' := ?_) #[true, true, true, false, true, false, false, false, true, false] rfl rfl (take_ofW HT_.out HW_.out (by kernel_rfl)) (fun _ _ _ h => h) (Or.inl ⟨by rfl, ?_⟩) hHeld ?_ ?_
                        rotate_left
                        ·rintro w' ⟨s0, s1, s2, s3, s4, s5⟩
                         go_simp
                         with_reducible rfl
                        rotate_left
                        ·simp only [Act.put, List.setIfInBounds_toArray, List.set_cons_zero, List.set_cons_succ, i64_w, i32_w]
                         rfl
                        refine take_ (i := 3) (N := some 130) (v := ?_) (a' := ?_) #[true, true, true, true, true, false, false, false, true, false] rfl rfl (take_ofW HT_.out HW_.out (by kernel_rfl)) (fun _ _ _ h => h) (Or.inl ⟨by rfl, ?_⟩) hHeld ?_ ?_
                        rotate_left
                        ·rintro w' ⟨s0, s1, s2, s3, s4, s5⟩
                         go_simp
                         with_reducible rfl
                        rotate_left
                        ·simp only [Act.put, List.setIfInBounds_toArray, List.set_cons_zero, List.set_cons_succ, i64_w, i32_w]
                         rfl
                        refine pure_ (i := 5) (N := some 132) (v := ?_) (a' := ?_) #[true, true, true, true, true, true, false, false, true, false] rfl rfl (any_of HT_.out (by kernel_rfl)) (fun _ _ _ h => h) (Or.inl ⟨by rfl, ?_⟩) ?_ ?_
                        rotate_left
                        ·intro w'
                         go_simp
                         with_reducible rfl
                        rotate_left
                        ·simp only [Act.put, List.setIfInBounds_toArray, List.set_cons_zero, List.set_cons_succ, i64_w, i32_w]
                         rfl
                        refine take_ (i := 6) (N := some 133) (v := ?_) (a' := ?_) #[true, true, true, true, true, true, true, false, true, false] rfl rfl (take_ofW HT_.out HW_.out (by kernel_rfl)) (fun _ _ _ h => h) (Or.inl ⟨by rfl, ?_⟩) hHeld ?_ ?_
                        rotate_left
                        ·rintro w' ⟨s0, s1, s2, s3, s4, s5⟩
                         go_simp
                         with_reducible rfl
                        rotate_left
                        ·simp only [Act.put, List.setIfInBounds_toArray, List.set_cons_zero, List.set_cons_succ, i64_w, i32_w]
                         rfl
                        refine one_ (i := 7) (N := some 134) #[true, true, true, true, true, true, true, true, true, false] rfl rfl (one_of HT_.out (by kernel_rfl)) (by decide) (fun K hK => ?_)
                        refine goes_ Tryd.func22 (by kernel_rfl) rfl #[.slice (some ad223) l0_3.length c0_3, .agg #[.int .i64 ((rd_T38 l0_3 x8_7).f0), .slice A223_1 ((rd_T38 l0_3 x8_7).f1).length c223_1]] (by rfl) rfl rfl (by (try simp only [List.map_toArray, List.map_cons, List.map_nil]); first | done | rfl | (simp only [List.length_drop, List.length_take]; rfl)) ?_
                        with_reducible refine (wickerref02_Find.calls k7 _ _ l0_3 ((rd_T38 l0_3 x8_7).f0) _ _ ((rd_T38 l0_3 x8_7).f1) t224 _ ?side1 ?side2 ?side3 ?side4 A72.out).mono ?_
                        (case side1 => repeat (first | exact (Kd.C_below HR0_3.out HB.out) | (with_reducible refine Kd.C_alloc ?_ _) | (with_reducible refine Kd.C_drewN ?_ _) | (with_reducible refine Kd.C_drew ?_)))
                        (case side2 => exact HC0_3.out)
                        (case side3 => repeat (first | exact (Kd.C_below HR223_1.out HB.out) | (with_reducible refine Kd.C_alloc ?_ _) | (with_reducible refine Kd.C_drewN ?_ _) | (with_reducible refine Kd.C_drew ?_)))
                        (case side4 => exact HC223_1.out)
                        rintro e w79 ⟨rfl, hb⟩
                        refine ⟨_, rfl, ?_⟩
                        have n0_ := Aside0.mk (blk_below (g := gb212) (o := .cells #[.slice A0_0 l0_0.length c0_0, .slice A0_1 l0_1.length c0_1, .int .i64 a0_2, .slice (some ad223) l0_3.length c0_3] 30 (0, 0)) (by (with_reducible repeat (first | refine blk_drewN ?_ _ | refine blk_drew ?_ | refine blk_alloc ?_ _)); exact BK212.out) hb)
                        have n1_ := Aside0.mk (below_step (by repeat (first | (with_reducible first | exact HB.out | apply below_alloc | apply pw_below_drewN | apply below_drew1 | refine below_set ?_ GE212.out) | exact HB.out)) hb)
                        clear BK212
                        clear HB
                        have BK212 := n0_
                        have HB := n1_
                        clear n0_ n1_
                        (try clear hb)
                        (try clear hb2)
                        (try clear hk)
                        (try clear hi)
                        refine hK.out _ _ ⟨(blk_cell BK212.out 0).trans rfl, (blk_cell BK212.out 1).trans rfl, (blk_cell BK212.out 2).trans rfl, (blk_cell BK212.out 3).trans rfl, ((HB.out.cell (World.block_lt_of_cell? w _ hw223_0)).trans hw223_0), ((HB.out.cell (World.block_lt_of_cell? w _ hw223_1)).trans hw223_1)⟩ (fun hHeld => ?_)
                        clear hK K
                        refine norm_ (a' := ?_) ?_ ?_
                        rotate_left
                        ·show Act.put _ (some 134) _ = _
                         simp only [Act.put, List.setIfInBounds_toArray, List.set_cons_zero, List.set_cons_succ, i64_w, i32_w]
                         rfl
                        refine pure_ (i := 9) (N := some 136) (v := ?_) (a' := ?_) #[true, true, true, true, true, true, true, true, true, true] rfl rfl (any_of HT_.out (by kernel_rfl)) (fun _ _ _ h => h) (Or.inl ⟨by rfl, ?_⟩) ?_ ?_
                        rotate_left
                        ·intro w'
                         go_simp
                         with_reducible rfl
                        rotate_left
                        ·simp only [Act.put, List.setIfInBounds_toArray, List.set_cons_zero, List.set_cons_succ, i64_w, i32_w]
                         rfl
                        refine done_ (done_of HT_.out (by kernel_rfl)) ?_
                        try go_wp2
                        go_roundg k7
                        case measure => have := HJ1.out; have := HK2.out; have := HK3.out; have := HJ24.out; have := HJ32.out; have := HK6.out; have := HK7.out; omega
                        case rel => exact ⟨(wrap64 (x8_7 + 1)), (by first | rfl | (simp; done) | (simp [*]; done)), H', ⟨by have := HJ1.out; have := HK2.out; have := HK3.out; have := HJ24.out; have := HJ32.out; have := HK6.out; have := HK7.out; omega⟩, ⟨by (with_reducible repeat (first | refine blk_drewN ?_ _ | refine blk_drew ?_ | refine blk_alloc ?_ _)); exact BK212.out⟩, ⟨by repeat (first | (with_reducible first | exact HB.out | apply below_alloc | apply pw_below_drewN | apply below_drew1 | refine below_set ?_ GE212.out) | exact HB.out)⟩⟩
                      ·rw [if_neg c71] at H
                       exact absurd H (by simp)
                     ·rw [if_neg c70] at H
                      have c70b0 : decide (x8_7 < (l0_3.length : Int)) = false := decide_eq_false c70
                      clear c70
                      obtain rfl := Option.some.inj H
                      have hcz80_0 : wr.cell? ⟨gb212, 0, none⟩ = some (.slice A0_0 l0_0.length c0_0) := (blk_cell BK212.out 0).trans rfl
                      have hcz80_1 : wr.cell? ⟨gb212, 1, none⟩ = some (.slice A0_1 l0_1.length c0_1) := (blk_cell BK212.out 1).trans rfl
                      have hcz80_2 : wr.cell? ⟨gb212, 2, none⟩ = some (.int .i64 a0_2) := (blk_cell BK212.out 2).trans rfl
                      have hcz80_3 : wr.cell? ⟨gb212, 3, none⟩ = some (.slice A0_3 l0_3.length c0_3) := (blk_cell BK212.out 3).trans rfl
                      have hfz80_0 := blk_frozen BK212.out 0
                      have hfz80_1 := blk_frozen BK212.out 1
                      have hfz80_2 := blk_frozen BK212.out 2
                      have hfz80_3 := blk_frozen BK212.out 3
                      go_wp2
                      go_ret
                      exact ⟨by first | rfl | (simp [errW_none, errW_some] <;> rfl) | (simp [*, errW_none, errW_some] <;> rfl), by repeat (first | (with_reducible first | exact HB.out | apply below_alloc | apply pw_below_drewN | apply below_drew1 | refine below_set ?_ GE212.out) | exact HB.out)⟩
end Go.Proofs.YtgdcnmpcfoomiaaDoor.G
end
section
set_option linter.unusedVariables false
set_option linter.unusedSimpArgs false
namespace Go.Proofs.YtgdcnmpcfoomiaaDoor.G
open Go Go.Proofs Go.RowKit Go.Proofs.YtgdcnmpcfoomiaaDoorW.PrintWords
abbrev RRule := S38
def ofR (r : GRule) : RRule := ⟨r.f0, r.f1⟩
theorem rd_at (l : List Int) (i : Nat) (h : i < l.length) : rd l (i : Int) = l[i] := by
  rw [rd, Int.toNat_natCast, List.getD_eq_getElem?_getD, List.getElem?_eq_getElem h]; rfl
theorem ofRule_l0 (l : List Int) (hl : l.length ≤ 1000000) (f0 : Int) : ∀ (d i : Nat), i + d = l.length → Ev (fun k => wickerlaw02_OfRule.l0 k l (l.length : Int) (i : Int) f0 (l.take i)) (f0, l) := by
  intro d
  induction d with
  | zero =>
    intro i hi
    refine Pure.ev_nowS fun k => ?_
    simp only [wickerlaw02_OfRule.l0]
    rw [if_neg (by omega), List.take_of_length_le (by omega)]
  | succ d ih =>
    intro i hi
    refine Ev.step (fun k => ?_) (ih (i + 1) (by omega))
    simp only [wickerlaw02_OfRule.l0]
    rw [if_pos (by omega), if_pos (by omega), if_pos (by omega), if_pos (by rw [List.length_take]; omega), rd_at l i (by omega), ← List.take_succ_eq_append_getElem (by omega), Pure.w64 (by omega) (by omega)]
    rfl
theorem ofRule_f (l : List Int) (hl : l.length ≤ 1000000) (f0 : Int) : Ev (fun k => wickerlaw02_OfRule.f k f0 l) (f0, l) := by
  have := ofRule_l0 l hl f0 l.length 0 (by omega)
  rw [List.take_zero] at this
  exact this
theorem ofRule_calls (f0 : Int) (A : Option Addr) (c : Nat) (l : List Int) (W : World) (hr : Kd.C (Kd.int .i64) W A l.length l) (hc : l.length ≤ c) (hl : l.length ≤ 1000000) :
    Calls Tryd.prog 23 #[.agg #[.int .i64 f0, .slice A l.length c]] W fun e w' => ∃ v : Value, e = .returned (.agg #[.int .i64 f0, v]) ∧ Kd.R (Kd.int .i64) 3 w' W.heap.size (fun _ => True) v l ∧ Below W.heap.size W w' := by
  obtain ⟨K, hK⟩ := Pure.Ev.out (ofRule_f l hl f0)
  exact wickerlaw02_OfRule.calls K f0 A c l f0 l W hr hc (hK K (Nat.le_refl _))
theorem info_ref : (Tryd.prog.info? 38).map (fun i => (i.zero, i.size, i.bytes)) = some (some (.agg #[.int .i64 0, .slice none 0 0]), k38.sz, 32) := by kernel_rfl
structure InO (w : World) (A0 : Option Addr) (c0 : Nat) (l0 : List ByteArray) (A1 : Option Addr) (c1 : Nat) (l1 : List ByteArray) (a2 : Int) (v3 : Value) (xs : List RRule) (W : World) : Prop where
  b2 : W.heap[w.heap.size + 1]? = some (.cells #[.slice none 0 0, .slice none 0 0, .int .i64 0, .slice none 0 0] 30 (0, 0))
  b3 : W.heap[w.heap.size + 1 + 1]? = some (.cells #[.slice A0 l0.length c0, .slice A1 l1.length c1, .int .i64 a2, v3] 30 (0, 0))
  row : Kd.R k38 38 W w.heap.size (fun _ => True) v3 xs
  bel : Below w.heap.size w W
theorem InO.step {w : World} {A0 : Option Addr} {c0 : Nat} {l0 : List ByteArray} {A1 : Option Addr} {c1 : Nat} {l1 : List ByteArray} {a2 : Int} {v3 : Value} {xs : List RRule} {W W' : World} (h : InO w A0 c0 l0 A1 c1 l1 a2 v3 xs W) (hb : Below W.heap.size W W') : InO w A0 c0 l0 A1 c1 l1 a2 v3 xs W' :=
  ⟨blk_below h.b2 hb, blk_below h.b3 hb, Kd.R_below h.row hb, h.bel.trans (hb.mono h.bel.size)⟩
theorem InO.cell {w : World} {A0 : Option Addr} {c0 : Nat} {l0 : List ByteArray} {A1 : Option Addr} {c1 : Nat} {l1 : List ByteArray} {a2 : Int} {v3 : Value} {xs : List RRule} {W : World} (h : InO w A0 c0 l0 A1 c1 l1 a2 v3 xs W) : W.cell? ⟨w.heap.size + 1 + 1, 3, none⟩ = some v3 := (blk_cell h.b3 3).trans rfl
set_option maxHeartbeats 8000000 in
set_option maxRecDepth 100000 in
theorem of_calls (A0 : Option Addr) (c0 : Nat) (l0 : List ByteArray) (A1 : Option Addr) (c1 : Nat) (l1 : List ByteArray) (a2 : Int) (A3 : Option Addr) (c3 : Nat) (l3 : List GRule) (hn : l3.length ≤ 1000000) (hok : l3.all ruleOk = true) (w : World) (hr3 : Kd.C k35 w A3 l3.length l3) :
    Calls Tryd.prog 11 #[.agg #[.slice A0 l0.length c0, .slice A1 l1.length c1, .int .i64 a2, .slice A3 l3.length c3]] w fun e w' => ∃ v3 : Value, e = .returned (.agg #[.slice A0 l0.length c0, .slice A1 l1.length c1, .int .i64 a2, v3]) ∧ Kd.R k38 38 w' w.heap.size (fun _ => True) v3 (l3.map ofR) ∧ Below w.heap.size w w' := by
  have hu := Tryd.underlying25
  have hu2 := Tryd.underlying35
  have hu3 := Tryd.underlying30
  have HOK := Lib.hid hok
  clear hok
  go_enter Tryd.func11, Tryd.ntmps11
  go_wp2_with fail
  go_loopw [16] (fun i wr => ∃ (k : Nat) (v3 : Value), k ≤ l3.length ∧ i = .int .i64 k ∧ InO w A0 c0 l0 A1 c1 l1 a2 v3 ((l3.take k).map ofR) wr) (fun i _ => l3.length - (intOf i).toNat)
  case atStart =>
    refine ⟨0, .slice none 0 0, Nat.zero_le _, rfl, ?_⟩
    have k2 := blk_alloc (blk_new (w.alloc (.cells #[.slice A0 l0.length c0, .slice A1 l1.length c1, .int .i64 a2, .slice A3 l3.length c3] 25)) (.cells #[.slice none 0 0, .slice none 0 0, .int .i64 0, .slice none 0 0] 30)) (.cells #[.slice A0 l0.length c0, .slice A1 l1.length c1, .int .i64 a2, .slice none 0 0] 30)
    have k3 := blk_new ((w.alloc (.cells #[.slice A0 l0.length c0, .slice A1 l1.length c1, .int .i64 a2, .slice A3 l3.length c3] 25)).alloc (.cells #[.slice none 0 0, .slice none 0 0, .int .i64 0, .slice none 0 0] 30)) (.cells #[.slice A0 l0.length c0, .slice A1 l1.length c1, .int .i64 a2, .slice none 0 0] 30)
    exact ⟨by simpa using k2, by simpa using k3, Kd.R_nil _ _ _ _ _, (((Below.refl _ w).alloc (Nat.le_refl _) _).alloc (by simp) _).alloc (by simp; omega) _⟩
  case round =>
    obtain ⟨k, v3, hk, rfl, hI⟩ := hrel
    have hB := hI.bel
    by_cases hlt : k < l3.length
    · obtain ⟨ad, A5, c5, e0, hx0, hx1, hc5, hr5⟩ := at_T35 hr3 (k : Int) (by omega) (by omega)
      subst e0
      obtain ⟨r, hrk⟩ : ∃ r, r = l3[k] := ⟨_, rfl⟩
      have hrd : rd_T35 l3 (k : Int) = r := by rw [hrk, rd_T35, Int.toNat_natCast, List.getD_eq_getElem?_getD, List.getElem?_eq_getElem hlt]; rfl
      rw [hrd] at hx0 hx1 hc5 hr5
      rw [Int.toNat_natCast] at hx0 hx1
      have hy0 : wr.cell? (ad.add (k * 2)) = some (.int .i64 r.f0) := (hB.cell (blk_lt_ hx0)).trans hx0
      have hy1 : wr.cell? ⟨(ad.add (k * 2)).block, (ad.add (k * 2)).off + 1, none⟩ = some (.slice A5 r.f1.length c5) := (hB.cell (blk_lt_ hx1)).trans hx1
      have hro : ruleOk r = true := List.all_eq_true.1 HOK.out r (by rw [hrk]; exact List.getElem_mem _)
      have hlen : r.f1.length ≤ 1000000 := by
        simp only [ruleOk, Bool.and_eq_true, decide_eq_true_eq] at hro
        exact hro.1.2
      have htake : Hid ((l3.take k).map ofR ++ [ofR r] = (l3.take (k + 1)).map ofR) := Lib.hid (by rw [List.take_succ_eq_append_getElem hlt, List.map_append, hrk]; rfl)
      have hxl : ((l3.take k).map ofR).length ≤ 1000000 := by rw [List.length_map, List.length_take]; omega
      generalize hxs : (l3.take k).map ofR = xs at *
      clear hxs hro hrd hrk hx0 hx1
      have hI1 : InO w A0 c0 l0 A1 c1 l1 a2 v3 xs (wr.alloc (.cells #[.int .i64 r.f0, .slice A5 r.f1.length c5] 35)) := hI.step ((Below.refl _ _).alloc (Nat.le_refl _) _)
      have hbr := blk_new wr (.cells #[.int .i64 r.f0, .slice A5 r.f1.length c5] 35)
      obtain ⟨rb, hrb⟩ : ∃ rb, wr.heap.size = rb := ⟨_, rfl⟩
      rw [hrb] at hbr
      go_wp2_with fail
      clear hrb
      have HR5 := Lib.hid hr5
      have hws : w.heap.size ≤ wr.heap.size := hB.size
      generalize wr.alloc (.cells #[.int .i64 r.f0, .slice A5 r.f1.length c5] 35) = w1 at *
      clear hy0 hy1 hI hB hr5
      have hIB1 : InO w A0 c0 l0 A1 c1 l1 a2 v3 xs w1.drew := hI1.step (Below.refl _ _).drew
      have hbr1 : w1.drew.heap[rb]? = some (.cells #[.int .i64 r.f0, .slice A5 r.f1.length c5] 35 (0, 0)) := hbr
      have hz0 := hIB1.cell
      have hz1 : w1.drew.cell? ⟨rb, 0, none⟩ = some (.int .i64 r.f0) := (blk_cell hbr1 0).trans rfl
      have hz2 : w1.drew.cell? ⟨rb, 1, none⟩ = some (.slice A5 r.f1.length c5) := (blk_cell hbr1 1).trans rfl
      go_region_law
        (first | (go_simp; go_at_call 23; (with_reducible refine (ofRule_calls r.f0 A5 c5 r.f1 _ ?_ hc5 hlen).mono ?_); (exact Kd.C_below HR5.out hIB1.bel); rintro e w2 ⟨u1, rfl, hR2, hb2⟩; have hI2 := hIB1.step hb2; have hk0 := hI2.cell; have hbr2 := blk_below hbr1 hb2; have hk1 : w2.cell? ⟨rb, 0, none⟩ = some (.int .i64 r.f0) := (blk_cell hbr2 0).trans rfl; have hk2 : w2.cell? ⟨rb, 1, none⟩ = some (.slice A5 r.f1.length c5) := (blk_cell hbr2 1).trans rfl; have hP : k38.M w2 w.heap.size (fun k => True ∧ some k ≠ v3.ownBlock) (ofR r) [.int .i64 r.f0, u1] := k38_mkM w2 w.heap.size _ (ofR r) (Kd.R_apart' (Kd.R_lower hR2 hIB1.bel.size) (Kd.R_typed hI2.row) (by decide)); have hI3 := hI2.step (W' := (w2.alloc (.cells #[.int .i64 r.f0, u1] 38))) ((Below.refl _ _).alloc (Nat.le_refl _) _); have hm0 := hI3.cell; have hbr3 := blk_alloc hbr2 (.cells #[.int .i64 r.f0, u1] 38); have hm1 : (w2.alloc (.cells #[.int .i64 r.f0, u1] 38)).cell? ⟨rb, 0, none⟩ = some (.int .i64 r.f0) := (blk_cell hbr3 0).trans rfl; have hm2 : (w2.alloc (.cells #[.int .i64 r.f0, u1] 38)).cell? ⟨rb, 1, none⟩ = some (.slice A5 r.f1.length c5) := (blk_cell hbr3 1).trans rfl) | (refine Kd.R_append_step k38 (w0 := w) (W := w2) w.heap.size (by rfl) (.tmp 21) (.tmp 24) 28 38 (.agg #[.int .i64 0, .slice none 0 0]) 32 (by rfl) Tryd.underlying28 info_ref (by rfl) (by decide) (by omega) v3 xs (ofR r) [.int .i64 r.f0, u1] (fun _ => True) (fun k => True ∧ some k ≠ v3.ownBlock) (by rfl) (by rfl) hP (fun _ hk => hk) (fun _ _ => trivial) hI2.row hI2.bel hI2.bel.size (by omega) ?_; intro v4 w4 ho4 hb4 hg4 hat4; obtain ⟨Ao4, co4, eo4⟩ := Kd.R_slice ho4; subst eo4; have hn3 := blk_grown hI2.b3 hg4 (Kd.R_ne hI2.row hI2.b3 (by decide)); have hn2 := blk_grown hI2.b2 hg4 (Kd.R_ne hI2.row hI2.b2 (by decide)); have hnr := blk_grown hbr2 hg4 (Kd.R_ne hI2.row hbr2 (by decide)); have hq0 : w4.cell? ⟨w.heap.size + 1 + 1, 3, none⟩ = some v3 := (blk_cell hn3 3).trans rfl; have hq1 : w4.cell? ⟨rb, 0, none⟩ = some (.int .i64 r.f0) := (blk_cell hnr 0).trans rfl; have hq2 : w4.cell? ⟨rb, 1, none⟩ = some (.slice A5 r.f1.length c5) := (blk_cell hnr 1).trans rfl; have hqf := blk_frozen hn3 3))
      all_goals
        have hIn : InO w A0 c0 l0 A1 c1 l1 a2 (.slice Ao4 (xs.length + 1) co4) ((l3.take (k + 1)).map ofR) (w4.setCell ⟨w.heap.size + 1 + 1, 3, none⟩ (.slice Ao4 (xs.length + 1) co4)) := by
          rw [List.length_append, List.length_singleton] at ho4
          rw [← htake.out]
          exact ⟨blk_far hn2 (Nat.ne_of_lt (Nat.lt_succ_self _)) _, blk_put (cs := #[.slice A0 l0.length c0, .slice A1 l1.length c1, .int .i64 a2, v3]) hn3 3 _ rfl, Kd.R_mono (Kd.R_far (p := ⟨w.heap.size + 1 + 1, 3, none⟩) (Kd.R_types ho4 hn3 (by decide)) (fun _ hk => hk.2) _) (fun _ _ => trivial), hb4.setCell (by show w.heap.size ≤ w.heap.size + 1 + 1; omega) _⟩
        clear hIB1 hbr1 hz0 hz1 hz2 hI2 hk0 hbr2 hk1 hk2 hP hI3 hm0 hbr3 hm1 hm2 ho4 hb4 hg4 hat4 hn3 hn2 hnr hq0 hq1 hq2 hqf hI1 hbr hR2 hb2 htake
        go_wp2
        go_roundw
        case rel => exact ⟨k + 1, _, by omega, by go_num, hIn⟩
        case measure => simp [intOf]; omega
    · obtain rfl : k = l3.length := by omega
      rw [List.take_length] at hI
      have h20 : wr.cell? ⟨w.heap.size + 1, 0, none⟩ = some (.slice none 0 0) := (blk_cell hI.b2 0).trans rfl
      have h21 : wr.cell? ⟨w.heap.size + 1, 1, none⟩ = some (.slice none 0 0) := (blk_cell hI.b2 1).trans rfl
      have h22 : wr.cell? ⟨w.heap.size + 1, 2, none⟩ = some (.int .i64 0) := (blk_cell hI.b2 2).trans rfl
      have h23 : wr.cell? ⟨w.heap.size + 1, 3, none⟩ = some (.slice none 0 0) := (blk_cell hI.b2 3).trans rfl
      have h30 : wr.cell? ⟨w.heap.size + 1 + 1, 0, none⟩ = some (.slice A0 l0.length c0) := (blk_cell hI.b3 0).trans rfl
      have h31 : wr.cell? ⟨w.heap.size + 1 + 1, 1, none⟩ = some (.slice A1 l1.length c1) := (blk_cell hI.b3 1).trans rfl
      have h32 : wr.cell? ⟨w.heap.size + 1 + 1, 2, none⟩ = some (.int .i64 a2) := (blk_cell hI.b3 2).trans rfl
      have h33 : wr.cell? ⟨w.heap.size + 1 + 1, 3, none⟩ = some v3 := (blk_cell hI.b3 3).trans rfl
      have f0 := blk_frozen hI.b2 0
      have f1 := blk_frozen hI.b2 1
      have f2 := blk_frozen hI.b2 2
      have f3 := blk_frozen hI.b2 3
      obtain ⟨Ao, co, hv3⟩ := Kd.R_slice hI.row
      rw [List.length_map] at hv3
      subst hv3
      go_wp2_with fail
      have hrow := Kd.R_far (p := ⟨w.heap.size + 1, 0, none⟩) (Kd.R_types hI.row hI.b2 (by decide)) (fun _ hk => hk.2) (.slice A0 l0.length c0)
      have hrow1 := Kd.R_far (p := ⟨w.heap.size + 1, 1, none⟩) hrow (fun _ hk => hk.2) (.slice A1 l1.length c1)
      have hrow2 := Kd.R_far (p := ⟨w.heap.size + 1, 2, none⟩) hrow1 (fun _ hk => hk.2) (.int .i64 a2)
      have hrow3 := Kd.R_far (p := ⟨w.heap.size + 1, 3, none⟩) hrow2 (fun _ hk => hk.2) (.slice Ao l3.length co)
      refine bodyPost_ret (results_cell_row rfl _ _ (w.heap.size + 1) 30 #[.slice A0 l0.length c0, .slice A1 l1.length c1, .int .i64 a2, .slice Ao l3.length co] (0, 0) _ rfl (by
        refine blk_put (cs := #[.slice A0 l0.length c0, .slice A1 l1.length c1, .int .i64 a2, .slice none 0 0]) ?_ 3 _ rfl
        refine blk_put (cs := #[.slice A0 l0.length c0, .slice A1 l1.length c1, .int .i64 0, .slice none 0 0]) ?_ 2 _ rfl
        refine blk_put (cs := #[.slice A0 l0.length c0, .slice none 0 0, .int .i64 0, .slice none 0 0]) ?_ 1 _ rfl
        refine blk_put (cs := #[.slice none 0 0, .slice none 0 0, .int .i64 0, .slice none 0 0]) ?_ 0 _ rfl
        exact hI.b2) Tryd.underlying30 rfl (by kernel_rfl)) rfl ?_
      have hS := hI.bel
      exact ⟨_, rfl, Kd.R_mono hrow3 (fun _ _ => trivial), (((hS.setCell (Nat.le_succ _) _).setCell (Nat.le_succ _) _).setCell (Nat.le_succ _) _).setCell (Nat.le_succ _) _⟩
end Go.Proofs.YtgdcnmpcfoomiaaDoor.G
end
section
set_option linter.unusedVariables false
set_option linter.unusedSimpArgs false
namespace Go.Proofs.YtgdcnmpcfoomiaaDoor.G
open Go Go.RowKit Go.Proofs.YtgdcnmpcfoomiaaDoorW.PrintWords Go.Proofs.YtgdcnmpcfoomiaaDoor.Pure
theorem rdS (l : List GRule) (i : Nat) (h : i < l.length) : rd_T38 (l.map ofR) (i : Int) = ofR l[i] := by
  rw [rd_T38, Int.toNat_natCast, List.getD_eq_getElem?_getD, List.getElem?_eq_getElem (by rw [List.length_map]; exact h)]
  simp
theorem rdB (l : List ByteArray) (i : Nat) (h : i < l.length) : rdOf ByteArray.empty l (i : Int) = l[i] := by
  rw [rdOf, Int.toNat_natCast, List.getD_eq_getElem?_getD, List.getElem?_eq_getElem h]; rfl
theorem succ64 {i : Nat} (h : i ≤ 1000000000) : wrap64 ((i : Int) + 1) = ((i + 1 : Nat) : Int) := by rw [w64 (by omega) (by omega)]; rfl
theorem nodup_take {α : Type} (l : List α) (i : Nat) (h : i < l.length) : (l.take (i + 1)).Nodup ↔ (l.take i).Nodup ∧ l[i] ∉ l.take i := by
  rw [List.take_succ_eq_append_getElem h, List.nodup_append]
  constructor
  · rintro ⟨h1, _, h3⟩
    exact ⟨h1, fun hm => h3 _ hm _ (by simp) rfl⟩
  · rintro ⟨h1, h2⟩
    refine ⟨h1, by simp, fun a ha b hb e => h2 ?_⟩
    simp at hb
    rw [← hb, ← e]; exact ha
theorem nodup_of_take {α : Type} {l : List α} (h : l.Nodup) (i : Nat) : (l.take i).Nodup := h.sublist (List.take_sublist i l)
theorem take_mem_idx {α : Type} {l : List α} {i : Nat} {x : α} : x ∈ l.take i ↔ ∃ j, ∃ h : j < l.length, j < i ∧ l[j] = x := by
  rw [List.mem_iff_getElem]
  constructor
  · rintro ⟨j, hj, e⟩
    rw [List.length_take] at hj
    exact ⟨j, by omega, by omega, by rw [← e, List.getElem_take]⟩
  · rintro ⟨j, h, hj, e⟩
    exact ⟨j, by rw [List.length_take]; omega, by rw [List.getElem_take]; exact e⟩
theorem same_l0 (a b : List Int) (ha : a.length ≤ 1000000) (hl : a.length = b.length) (x y : Int) : ∀ (d i : Nat), i + d = a.length → Ev (fun k => wickerref02_Same.l0 k (i : Int) x a y b) (decide (a.drop i = b.drop i)) := by
  intro d
  induction d with
  | zero =>
    intro i hi
    refine ev_nowS fun k => ?_
    rw [wickerref02_Same.l0, if_neg (by omega), List.drop_eq_nil_of_le (by omega), List.drop_eq_nil_of_le (by omega)]
    rfl
  | succ d ih =>
    intro i hi
    have h1 : i < a.length := by omega
    have h2 : i < b.length := by omega
    by_cases e : a[i] = b[i]
    · refine Ev.step (fun k => ?_) (Ev.eq (ih (i + 1) (by omega)) ?_)
      · rw [wickerref02_Same.l0, if_pos (by omega), if_pos (by omega), if_pos (by omega), rd_at a i h1, rd_at b i h2, if_pos e, succ64 (by omega)]
      · rw [List.drop_eq_getElem_cons h1, List.drop_eq_getElem_cons h2, decide_eq_decide, List.cons.injEq]
        exact ⟨fun h => ⟨e, h⟩, fun h => h.2⟩
    · refine ev_nowS fun k => ?_
      rw [wickerref02_Same.l0, if_pos (by omega), if_pos (by omega), if_pos (by omega), rd_at a i h1, rd_at b i h2, if_neg e, List.drop_eq_getElem_cons h1, List.drop_eq_getElem_cons h2, decide_eq_false (fun h => e (by injection h))]
theorem same_f (r s : GRule) (hr : r.f1.length ≤ 1000000) (hs : s.f1.length ≤ 1000000) : Ev (fun k => wickerref02_Same.f k r.f0 r.f1 s.f0 s.f1) (decide (r = s)) := by
  have hext : r = s ↔ r.f0 = s.f0 ∧ r.f1 = s.f1 := ⟨fun e => by rw [e]; exact ⟨rfl, rfl⟩, fun h => by cases r; cases s; simp only at h; rw [h.1, h.2]⟩
  unfold wickerref02_Same.f
  by_cases h0 : r.f0 = s.f0
  · refine Ev.pos h0 ?_
    by_cases hl : r.f1.length = s.f1.length
    · refine Ev.step (fun k => ?_) (Ev.eq (same_l0 r.f1 s.f1 hr hl r.f0 s.f0 r.f1.length 0 (by omega)) ?_)
      · rw [wickerref02_Same.j0, if_neg (by simp [hl])]; rfl
      · rw [List.drop_zero, List.drop_zero]; simp [hext, h0]
    · refine ev_nowS fun k => ?_
      rw [wickerref02_Same.j0, if_pos (by rw [bne_iff_ne]; omega)]
      simp [hext, h0]
      intro e; exact hl (by rw [e])
  · refine Ev.neg h0 (ev_nowS fun k => ?_)
    rw [wickerref02_Same.j0, if_pos rfl]
    simp [hext, h0]
def findG (r : GRule) : List GRule → Int → Int
  | [], _ => -1
  | x :: t, i => if x = r then i else findG r t (i + 1)
theorem ruleOk_len {r : GRule} (h : ruleOk r = true) : r.f1.length ≤ 1000000 := by
  simp only [ruleOk, Bool.and_eq_true, decide_eq_true_eq] at h
  exact h.1.2
theorem find_l0 (l : List GRule) (hn : l.length ≤ 1000000) (hok : l.all ruleOk = true) (r : GRule) (hr : r.f1.length ≤ 1000000) : ∀ (d i : Nat), i + d = l.length → Ev (fun k => wickerref02_Find.l0 k (l.map ofR) (i : Int) r.f0 r.f1) (findG r (l.drop i) (i : Int)) := by
  intro d
  induction d with
  | zero =>
    intro i hi
    refine ev_nowS fun k => ?_
    rw [wickerref02_Find.l0, List.length_map, if_neg (by omega), List.drop_eq_nil_of_le (by omega)]; rfl
  | succ d ih =>
    intro i hi
    have h1 : i < l.length := by omega
    have hs := same_f l[i] r (ruleOk_len (List.all_eq_true.1 hok _ (List.getElem_mem _))) hr
    refine Ev.step (f := fun k => (wickerref02_Same.f k l[i].f0 l[i].f1 r.f0 r.f1).bind fun t => if t = true then some (i : Int) else wickerref02_Find.l0 k (l.map ofR) ((i + 1 : Nat) : Int) r.f0 r.f1) (fun k => ?_) (Ev.bind hs ?_)
    · rw [wickerref02_Find.l0, List.length_map, if_pos (by omega), if_pos (by omega), rdS l i h1, succ64 (by omega)]; rfl
    · rw [List.drop_eq_getElem_cons h1, findG]
      by_cases e : l[i] = r
      · rw [if_pos e]; exact Ev.pos (decide_eq_true e) (Ev.now _)
      · rw [if_neg e]; exact Ev.neg (by rw [decide_eq_false e]; simp) (ih (i + 1) (by omega))
theorem find_f (l : List GRule) (hn : l.length ≤ 1000000) (hok : l.all ruleOk = true) (r : GRule) (hr : r.f1.length ≤ 1000000) : Ev (fun k => wickerref02_Find.f k (l.map ofR) r.f0 r.f1) (findG r l 0) := find_l0 l hn hok r hr l.length 0 (by omega)
theorem findG_lt (r : GRule) : ∀ (l : List GRule) (m i : Nat), (r ∈ l.take m → findG r l i < ((i + m : Nat) : Int)) ∧ (r ∈ l → r ∉ l.take m → ((i + m : Nat) : Int) ≤ findG r l i) := by
  intro l
  induction l with
  | nil => intro m i; simp
  | cons a l ih =>
    intro m i
    cases m with
    | zero =>
      refine ⟨by simp, fun h _ => ?_⟩
      rw [findG]
      by_cases e : a = r
      · rw [if_pos e]; omega
      · rw [if_neg e]
        have := (ih 0 (i + 1)).2 (by rcases List.mem_cons.1 h with h | h; exact absurd h.symm e; exact h) (by simp)
        have e2 : ((i : Int) + 1) = ((i + 1 : Nat) : Int) := by omega
        rw [e2]; omega
    | succ m =>
      have e2 : ((i : Int) + 1) = ((i + 1 : Nat) : Int) := by omega
      rw [findG, List.take_succ_cons, e2]
      by_cases e : a = r
      · rw [if_pos e]
        exact ⟨fun _ => by omega, fun _ hn => absurd (by rw [e]; simp) hn⟩
      · rw [if_neg e]
        obtain ⟨h1, h2⟩ := ih m (i + 1)
        refine ⟨fun h => ?_, fun h hn => ?_⟩
        · have := h1 (by rcases List.mem_cons.1 h with h | h; exact absurd h.symm e; exact h); omega
        · have := h2 (by rcases List.mem_cons.1 h with h | h; exact absurd h.symm e; exact h) (fun hm => hn (List.mem_cons_of_mem _ hm)); omega
theorem findG_take (l : List GRule) (i : Nat) (h : i < l.length) : findG l[i] l 0 < (i : Int) ↔ l[i] ∈ l.take i := by
  have hh := findG_lt l[i] l i 0
  rw [Nat.zero_add] at hh
  constructor
  · intro hlt
    apply Classical.byContradiction
    intro hn
    have := hh.2 (List.getElem_mem _) hn
    have e : findG l[i] l ((0 : Nat) : Int) = findG l[i] l 0 := rfl
    omega
  · intro hm; exact hh.1 hm
theorem twice_l1 (l : List ByteArray) (hn : l.length ≤ 1000000) (i : Nat) (hi : i < l.length) (R : Bool) (hno : l[i] ∉ l.take i → Ev (fun k => wickerref02_twice.l0 k l ((i + 1 : Nat) : Int)) R) (hyes : l[i] ∈ l.take i → R = true) :
    ∀ (d j : Nat), j + d = i → l[i] ∉ l.take j → Ev (fun k => wickerref02_twice.l1 k l (i : Int) (j : Int)) R := by
  intro d
  induction d with
  | zero =>
    intro j hj hm
    obtain rfl : j = i := by omega
    refine Ev.step (fun k => ?_) (hno hm)
    rw [wickerref02_twice.l1, if_neg (by omega), succ64 (by omega)]
  | succ d ih =>
    intro j hj hm
    have hjl : j < l.length := by omega
    by_cases e : l[i] = l[j]
    · rw [hyes (take_mem_idx.2 ⟨j, hjl, by omega, e.symm⟩)]
      refine ev_nowS fun k => ?_
      rw [wickerref02_twice.l1, if_pos (by omega), if_pos (by omega), if_pos (by omega), if_pos (by omega), if_pos (by omega), rdB l i hi, rdB l j hjl, if_pos (by rw [e])]
    · refine Ev.step (fun k => ?_) (ih (j + 1) (by omega) ?_)
      · rw [wickerref02_twice.l1, if_pos (by omega), if_pos (by omega), if_pos (by omega), if_pos (by omega), if_pos (by omega), rdB l i hi, rdB l j hjl, if_neg (fun h => e ((ba_list _ _).1 h)), succ64 (by omega)]
      · rw [List.take_succ_eq_append_getElem hjl, List.mem_append]
        rintro (h | h)
        · exact hm h
        · exact e (by simpa using h)
theorem twice_l0 (l : List ByteArray) (hn : l.length ≤ 1000000) : ∀ (d i : Nat), i + d = l.length → (l.take i).Nodup → Ev (fun k => wickerref02_twice.l0 k l (i : Int)) (!decide l.Nodup) := by
  intro d
  induction d with
  | zero =>
    intro i hi hd
    rw [List.take_of_length_le (by omega)] at hd
    refine ev_nowS fun k => ?_
    rw [wickerref02_twice.l0, if_neg (by omega)]; simp [hd]
  | succ d ih =>
    intro i hi hd
    have h1 : i < l.length := by omega
    refine Ev.step (fun k => ?_) (twice_l1 l hn i h1 (!decide l.Nodup) (fun h => ih (i + 1) (by omega) ((nodup_take l i h1).2 ⟨hd, h⟩)) (fun h => ?_) i 0 (by omega) (by simp))
    · rw [wickerref02_twice.l0, if_pos (by omega)]; rfl
    · have : ¬ l.Nodup := fun hN => ((nodup_take l i h1).1 (nodup_of_take hN _)).2 h
      simp [this]
theorem twice_f (l : List ByteArray) (hn : l.length ≤ 1000000) : Ev (fun k => wickerref02_twice.f k l) (!decide l.Nodup) := twice_l0 l hn l.length 0 (by omega) (by simp)
theorem refhas_f (l0 l1 : List ByteArray) (h1 : l1.length ≤ 1000000) (a2 : Int) (l3 : List RRule) (s : Int) : wickerref02_Has.f l0 l1 a2 l3 s = some (hasB l0.length l1.length s) := by
  unfold wickerref02_Has.f hasB
  rw [w64 (by omega) (by omega)]
  by_cases hs : s < 0
  · rw [if_pos (by omega), if_pos hs]
    congr 1
    by_cases h : (l1.length : Int) > -1 - s
    · rw [decide_eq_true (by omega), decide_eq_true (by omega)]
    · rw [decide_eq_false (by omega), decide_eq_false (by omega)]
  · rw [if_neg hs]
    by_cases h : s < (l0.length : Int)
    · rw [if_pos h, decide_eq_true (by omega), decide_eq_true h]
    · rw [if_neg h, decide_eq_false h]
section
variable (l0 l1 : List ByteArray) (a2 : Int) (l3 : List GRule) (h0 : l0.length ≤ 1000000) (h1 : l1.length ≤ 1000000) (hn : l3.length ≤ 1000000) (hok : l3.all ruleOk = true)
include h0 h1 hn hok
omit h0 h1 in
theorem check_l4 : ∀ (d i : Nat), i + d = l3.length → (l3.take i).Nodup → Ev (fun k => wickerref02_Check.l4 k (i : Int) l0 l1 a2 (l3.map ofR)) (if l3.Nodup then 0 else 2) := by
  intro d
  induction d with
  | zero =>
    intro i hi hd
    rw [List.take_of_length_le (by omega)] at hd
    rw [if_pos hd]
    refine ev_nowS fun k => ?_
    rw [wickerref02_Check.l4, List.length_map, if_neg (by omega)]
  | succ d ih =>
    intro i hi hd
    have hi1 : i < l3.length := by omega
    have hf := find_f l3 hn hok l3[i] (ruleOk_len (List.all_eq_true.1 hok _ (List.getElem_mem _)))
    refine Ev.step (f := fun k => (wickerref02_Find.f k (l3.map ofR) l3[i].f0 l3[i].f1).bind fun t => if t < (i : Int) then some 2 else wickerref02_Check.l4 k ((i + 1 : Nat) : Int) l0 l1 a2 (l3.map ofR)) (fun k => ?_) (Ev.bind hf ?_)
    · rw [wickerref02_Check.l4, List.length_map, if_pos (by omega), if_pos (by omega), rdS l3 i hi1, succ64 (by omega)]; rfl
    · by_cases e : l3[i] ∈ l3.take i
      · rw [if_neg (fun hN => ((nodup_take l3 i hi1).1 (nodup_of_take hN _)).2 e)]
        exact Ev.pos ((findG_take l3 i hi1).2 e) (Ev.now _)
      · exact Ev.neg (fun h => e ((findG_take l3 i hi1).1 h)) (ih (i + 1) (by omega) ((nodup_take l3 i hi1).2 ⟨hd, e⟩))
omit h0 in
theorem check_l3 (i : Nat) (hi : i < l3.length) (R : Int) (hbad : ¬ (l3[i].f1.all (hasB l0.length l1.length) = true) → R = 3) (hlong : l3[i].f1.all (hasB l0.length l1.length) = true → 64 < l3[i].f1.length → R = 5) (hgo : l3[i].f1.all (hasB l0.length l1.length) = true → ¬ 64 < l3[i].f1.length → Ev (fun k => wickerref02_Check.l2 k ((i + 1 : Nat) : Int) l0 l1 a2 (l3.map ofR)) R) :
    ∀ (d j : Nat), j + d = l3[i].f1.length → (l3[i].f1.take j).all (hasB l0.length l1.length) = true → Ev (fun k => wickerref02_Check.l3 k (i : Int) (j : Int) l0 l1 a2 (l3.map ofR) l3[i].f0 l3[i].f1) R := by
  have hl := ruleOk_len (List.all_eq_true.1 hok _ (List.getElem_mem hi))
  intro d
  induction d with
  | zero =>
    intro j hj ha
    rw [List.take_of_length_le (by omega)] at ha
    by_cases h64 : 64 < l3[i].f1.length
    · rw [hlong ha h64]
      refine ev_nowS fun k => ?_
      rw [wickerref02_Check.l3, if_neg (by omega), if_pos (by omega)]
    · refine Ev.step (fun k => ?_) (hgo ha h64)
      rw [wickerref02_Check.l3, if_neg (by omega), if_neg (by omega), succ64 (by omega)]
  | succ d ih =>
    intro j hj ha
    have hj1 : j < l3[i].f1.length := by omega
    by_cases hb : hasB l0.length l1.length l3[i].f1[j] = true
    · refine Ev.step (fun k => ?_) (ih (j + 1) (by omega) (by rw [List.take_succ_eq_append_getElem hj1, List.all_append, ha]; simp [hb]))
      rw [wickerref02_Check.l3, if_pos (by omega), if_pos (by omega), rd_at _ j hj1, refhas_f l0 l1 h1, Option.bind_some, if_pos hb, succ64 (by omega)]
    · rw [hbad (fun h => hb (List.all_eq_true.1 h _ (List.getElem_mem _)))]
      refine ev_nowS fun k => ?_
      rw [wickerref02_Check.l3, if_pos (by omega), if_pos (by omega), rd_at _ j hj1, refhas_f l0 l1 h1, Option.bind_some, if_neg hb]
omit h0 in
theorem check_l2 : ∀ (d i : Nat), i + d = l3.length → Ev (fun k => wickerref02_Check.l2 k (i : Int) l0 l1 a2 (l3.map ofR)) (match (l3.drop i).find? (fun r => decide (ruleC l0.length l1.length r ≠ 0)) with
    | some r => ruleC l0.length l1.length r
    | none => if l3.Nodup then 0 else 2) := by
  intro d
  induction d with
  | zero =>
    intro i hi
    rw [List.drop_eq_nil_of_le (by omega)]
    refine Ev.step (fun k => ?_) (check_l4 l0 l1 a2 l3 hn hok l3.length 0 (by omega) (by simp))
    rw [wickerref02_Check.l2, List.length_map, if_neg (by omega)]; rfl
  | succ d ih =>
    intro i hi
    have hi1 : i < l3.length := by omega
    rw [List.drop_eq_getElem_cons hi1, List.find?_cons]
    have key : ∀ b : Bool, b = decide (l3[i].f0 < 0 ∨ (l0.length : Int) ≤ l3[i].f0) → Ev (fun k => wickerref02_Check.j6 k (i : Int) b l0 l1 a2 (l3.map ofR) l3[i].f0 l3[i].f1) (match (match decide (ruleC l0.length l1.length l3[i] ≠ 0) with | true => some l3[i] | false => (l3.drop (i + 1)).find? (fun r => decide (ruleC l0.length l1.length r ≠ 0))) with
        | some r => ruleC l0.length l1.length r
        | none => if l3.Nodup then 0 else 2) := by
      intro b hb
      by_cases hL : l3[i].f0 < 0 ∨ (l0.length : Int) ≤ l3[i].f0
      · have e3 : ruleC l0.length l1.length l3[i] = 3 := by unfold ruleC; rw [if_pos (by rcases hL with h | h; exact .inl h; exact .inr (.inl h))]
        rw [show decide (ruleC l0.length l1.length l3[i] ≠ 0) = true by rw [e3]; rfl]
        simp only [e3]
        refine ev_nowS fun k => ?_
        rw [wickerref02_Check.j6, if_pos (by rw [hb, decide_eq_true hL])]
      · refine Ev.step (fun k => ?_) (check_l3 l0 l1 a2 l3 h1 hn hok i hi1 _ (fun hbad => ?_) (fun ha h64 => ?_) (fun ha h64 => ?_) l3[i].f1.length 0 (by omega) (by simp))
        · rw [wickerref02_Check.j6, if_neg (by rw [hb, decide_eq_false hL]; simp)]; rfl
        · have e3 : ruleC l0.length l1.length l3[i] = 3 := by unfold ruleC; rw [if_pos (.inr (.inr hbad))]
          rw [show decide (ruleC l0.length l1.length l3[i] ≠ 0) = true by rw [e3]; rfl]; simp only [e3]
        · have e5 : ruleC l0.length l1.length l3[i] = 5 := by unfold ruleC; rw [if_neg (fun h => h.elim (fun h => hL (.inl h)) (fun h => h.elim (fun h => hL (.inr h)) (fun h => h ha))), if_pos h64]
          rw [show decide (ruleC l0.length l1.length l3[i] ≠ 0) = true by rw [e5]; rfl]; simp only [e5]
        · have e0 : ruleC l0.length l1.length l3[i] = 0 := by unfold ruleC; rw [if_neg (fun h => h.elim (fun h => hL (.inl h)) (fun h => h.elim (fun h => hL (.inr h)) (fun h => h ha))), if_neg h64]
          rw [show decide (ruleC l0.length l1.length l3[i] ≠ 0) = false by rw [e0]; rfl]
          exact ih (i + 1) (by omega)
    by_cases hneg : l3[i].f0 < 0
    · refine Ev.step (fun k => ?_) (key true (by rw [decide_eq_true (.inl hneg)]))
      rw [wickerref02_Check.l2, List.length_map, if_pos (by omega), if_pos (by omega), rdS l3 i hi1]
      exact if_pos hneg
    · refine Ev.step (fun k => ?_) (key (decide (l3[i].f0 ≥ (l0.length : Int))) (by
        by_cases h : (l0.length : Int) ≤ l3[i].f0
        · rw [decide_eq_true (show l3[i].f0 ≥ (l0.length : Int) from h), decide_eq_true (.inr h)]
        · rw [decide_eq_false (show ¬ l3[i].f0 ≥ (l0.length : Int) from h), decide_eq_false (fun hh => hh.elim hneg h)]))
      rw [wickerref02_Check.l2, List.length_map, if_pos (by omega), if_pos (by omega), rdS l3 i hi1]
      exact if_neg hneg
end
theorem gram_bounds {l0 l1 : List ByteArray} {a2 : Int} {l3 : List GRule} (h : gramOk l0 l1 a2 l3 = true) : l0.length ≤ 1000000 ∧ l1.length ≤ 1000000 ∧ l3.length ≤ 1000000 ∧ (∀ s ∈ l0, s.size ≤ 1000000000) ∧ (∀ s ∈ l1, s.size ≤ 1000000000) ∧ symOk a2 = true ∧ l3.all ruleOk = true := by
  simp only [gramOk, Bool.and_eq_true, decide_eq_true_eq] at h
  exact ⟨h.1.1.1.1.1.1, h.1.1.1.1.1.2, h.1.1.1.1.2, fun s hs => of_decide_eq_true (List.all_eq_true.1 h.1.1.1.2 s hs), fun s hs => of_decide_eq_true (List.all_eq_true.1 h.1.1.2 s hs), h.1.2, h.2⟩
theorem all_drop_cons {l : List ByteArray} {p : ByteArray → Bool} {i : Nat} (h : i < l.length) : (l.take (i + 1)).all p = ((l.take i).all p && p l[i]) := by
  rw [List.take_succ_eq_append_getElem h, List.all_append]; simp
section
variable (l0 l1 : List ByteArray) (a2 : Int) (l3 : List GRule) (hg : gramOk l0 l1 a2 l3 = true)
include hg
theorem check_end (h0a : l0.all nmB = true) (h1a : l1.all mkB = true) :
    Ev (fun k => (wickerref02_twice.f k l0).bind fun t => if t = true then wickerref02_Check.j3 k true l0 l1 a2 (l3.map ofR) else (wickerref02_twice.f k l1).bind fun t => wickerref02_Check.j3 k t l0 l1 a2 (l3.map ofR))
      (if texC nmB l0 = 1 ∨ texC mkB l1 = 1 then 1 else if texC nmB l0 = 2 ∨ texC mkB l1 = 2 then 2 else if a2 < 0 ∨ (l0.length : Int) ≤ a2 then 3 else rulesC l0.length l1.length l3) := by
  obtain ⟨b0, b1, b3, s0, s1, _, hok⟩ := gram_bounds hg
  have c0 : texC nmB l0 = if l0.Nodup then 0 else 2 := by unfold texC; rw [if_pos h0a]
  have c1 : texC mkB l1 = if l1.Nodup then 0 else 2 := by unfold texC; rw [if_pos h1a]
  have n0 : ¬ (texC nmB l0 = 1 ∨ texC mkB l1 = 1) := by rw [c0, c1]; split <;> split <;> decide
  rw [if_neg n0]
  refine Ev.bind (twice_f l0 b0) ?_
  by_cases d0 : l0.Nodup
  · refine Ev.neg (by simp [d0]) (Ev.bind (twice_f l1 b1) ?_)
    by_cases d1 : l1.Nodup
    · rw [if_neg (by rw [c0, c1, if_pos d0, if_pos d1]; decide)]
      have go : Ev (fun k => wickerref02_Check.l2 k 0 l0 l1 a2 (l3.map ofR)) (rulesC l0.length l1.length l3) := check_l2 l0 l1 a2 l3 b1 b3 hok l3.length 0 (by omega)
      by_cases ha : a2 < 0
      · rw [if_pos (.inl ha)]
        refine Ev.step (f := fun k => wickerref02_Check.j4 k true l0 l1 a2 (l3.map ofR)) (fun k => ?_) (ev_nowS fun k => ?_)
        · rw [wickerref02_Check.j3, if_neg (by simp [d1]), if_pos ha]
        · rw [wickerref02_Check.j4, if_pos rfl]
      · by_cases hb : (l0.length : Int) ≤ a2
        · rw [if_pos (.inr hb)]
          refine Ev.step (f := fun k => wickerref02_Check.j4 k true l0 l1 a2 (l3.map ofR)) (fun k => ?_) (ev_nowS fun k => ?_)
          · rw [wickerref02_Check.j3, if_neg (by simp [d1]), if_neg ha, decide_eq_true (show a2 ≥ (l0.length : Int) from hb)]
          · rw [wickerref02_Check.j4, if_pos rfl]
        · rw [if_neg (by omega)]
          refine Ev.step (f := fun k => wickerref02_Check.j4 k false l0 l1 a2 (l3.map ofR)) (fun k => ?_) (Ev.step (fun k => ?_) go)
          · rw [wickerref02_Check.j3, if_neg (by simp [d1]), if_neg ha, decide_eq_false (show ¬ a2 ≥ (l0.length : Int) from hb)]
          · rw [wickerref02_Check.j4, if_neg (by simp)]
    · rw [if_pos (by rw [c0, c1, if_pos d0, if_neg d1]; decide)]
      refine ev_nowS fun k => ?_
      rw [wickerref02_Check.j3, if_pos (by simp [d1])]
  · rw [if_pos (by rw [c0, if_neg d0]; exact .inl rfl)]
    refine Ev.pos (by simp [d0]) (ev_nowS fun k => ?_)
    rw [wickerref02_Check.j3, if_pos rfl]
theorem check_l1 (h0a : l0.all nmB = true) : ∀ (d i : Nat), i + d = l1.length → (l1.take i).all mkB = true → Ev (fun k => wickerref02_Check.l1 k (i : Int) l0 l1 a2 (l3.map ofR))
      (if texC nmB l0 = 1 ∨ texC mkB l1 = 1 then 1 else if texC nmB l0 = 2 ∨ texC mkB l1 = 2 then 2 else if a2 < 0 ∨ (l0.length : Int) ≤ a2 then 3 else rulesC l0.length l1.length l3) := by
  have hb := gram_bounds hg
  intro d
  induction d with
  | zero =>
    intro i hi ha
    rw [List.take_of_length_le (by omega)] at ha
    refine Ev.step (fun k => ?_) (check_end l0 l1 a2 l3 hg h0a ha)
    rw [wickerref02_Check.l1, if_neg (by omega)]
  | succ d ih =>
    intro i hi ha
    have hi1 : i < l1.length := by omega
    by_cases hm : mkB l1[i] = true
    · refine Ev.step (fun k => ?_) (ih (i + 1) (by omega) (by rw [all_drop_cons hi1, ha, hm]; rfl))
      rw [wickerref02_Check.l1, if_pos (by omega), if_pos (by omega), rdB l1 i hi1, ref_mark_f, Option.bind_some, if_pos (show markL l1[i].data.toList = true from hm), succ64 (by omega)]
    · have : texC mkB l1 = 1 := by unfold texC; rw [if_neg (fun h => hm (List.all_eq_true.1 h _ (List.getElem_mem _)))]
      rw [if_pos (.inr this)]
      refine ev_nowS fun k => ?_
      rw [wickerref02_Check.l1, if_pos (by omega), if_pos (by omega), rdB l1 i hi1, ref_mark_f, Option.bind_some, if_neg (show ¬ markL l1[i].data.toList = true from hm)]
theorem check_l0 : ∀ (d i : Nat), i + d = l0.length → (l0.take i).all nmB = true → Ev (fun k => wickerref02_Check.l0 k (i : Int) l0 l1 a2 (l3.map ofR))
      (if texC nmB l0 = 1 ∨ texC mkB l1 = 1 then 1 else if texC nmB l0 = 2 ∨ texC mkB l1 = 2 then 2 else if a2 < 0 ∨ (l0.length : Int) ≤ a2 then 3 else rulesC l0.length l1.length l3) := by
  have hb := gram_bounds hg
  intro d
  induction d with
  | zero =>
    intro i hi ha
    rw [List.take_of_length_le (by omega)] at ha
    refine Ev.step (fun k => ?_) (check_l1 l0 l1 a2 l3 hg ha l1.length 0 (by omega) (by simp))
    rw [wickerref02_Check.l0, if_neg (by omega)]; rfl
  | succ d ih =>
    intro i hi ha
    have hi1 : i < l0.length := by omega
    have hnf := ref_name_f l0[i] (by have := hb.2.2.2.1 _ (List.getElem_mem hi1); omega)
    refine Ev.step (f := fun k => (wickerref01_Name.f k l0[i]).bind fun t => if t = true then wickerref02_Check.l0 k ((i + 1 : Nat) : Int) l0 l1 a2 (l3.map ofR) else some 1) (fun k => ?_) (Ev.bind hnf ?_)
    · rw [wickerref02_Check.l0, if_pos (by omega), if_pos (by omega), rdB l0 i hi1, succ64 (by omega)]
    · by_cases hm : nmB l0[i] = true
      · exact Ev.pos hm (ih (i + 1) (by omega) (by rw [all_drop_cons hi1, ha, hm]; rfl))
      · have : texC nmB l0 = 1 := by unfold texC; rw [if_neg (fun h => hm (List.all_eq_true.1 h _ (List.getElem_mem _)))]
        rw [if_pos (.inl this)]
        exact Ev.neg hm (Ev.now _)
theorem ref_check_f : Ev (fun k => wickerref02_Check.f k l0 l1 a2 (l3.map ofR)) (checkC nmB mkB l0 l1 a2 l3) := by
  have full : Ev (fun k => wickerref02_Check.j0 k true l0 l1 a2 (l3.map ofR)) 11 := ev_nowS fun k => by rw [wickerref02_Check.j0, if_pos rfl]
  unfold wickerref02_Check.f checkC
  by_cases x0 : l0.length = 0
  · rw [if_pos (.inl x0)]; exact Ev.pos (by omega) full
  by_cases x1 : 2048 < l0.length
  · rw [if_pos (.inr (.inl x1))]; exact Ev.neg (by omega) (Ev.pos (by omega) full)
  by_cases x2 : 2048 < l1.length
  · rw [if_pos (.inr (.inr (.inl x2)))]; exact Ev.neg (by omega) (Ev.neg (by omega) (Ev.pos (by omega) full))
  refine Ev.neg (by omega) (Ev.neg (by omega) (Ev.neg (by omega) ?_))
  rw [List.length_map]
  by_cases x3 : 8192 < l3.length
  · rw [if_pos (.inr (.inr (.inr x3))), decide_eq_true (by omega)]; exact full
  · rw [if_neg (by omega), decide_eq_false (by omega)]
    refine Ev.step (fun k => ?_) (check_l0 l0 l1 a2 l3 hg l0.length 0 (by omega) (by simp))
    rw [wickerref02_Check.j0, if_neg (by simp)]; rfl
end
end Go.Proofs.YtgdcnmpcfoomiaaDoor.G
end
section
namespace Go.Proofs.YtgdcnmpcfoomiaaDoor.G
open Go.RowKit Go.Proofs.YtgdcnmpcfoomiaaDoorW.PrintWords Go.Proofs.YtgdcnmpcfoomiaaDoorW.PrintLast Go.Proofs.YtgdcnmpcfoomiaaDoorW.PrintMore
attribute [local go_sem] max2_int min2_int max_two min_two max_three min_three max_four min_four
attribute [local go_sem] Go.Proofs.YtgdcnmpcfoomiaaDoorOwn.isSome_setCell
set_option linter.unusedVariables false
set_option linter.unusedSimpArgs false
def wickerlaw02_May.f (l0_0 : List ByteArray) (l0_1 : List ByteArray) (a0_2 : Int) (l0_3 : List GRule) : Option Bool := if gramOk l0_0 l0_1 a0_2 l0_3 = true then some (checkC nmB mkB l0_0 l0_1 a0_2 l0_3 == 0) else none
set_option maxHeartbeats 2000000 in
set_option maxRecDepth 100000 in
theorem wickerlaw02_May.calls (A0_0 : Option Addr) (c0_0 : Nat) (l0_0 : List ByteArray) (A0_1 : Option Addr) (c0_1 : Nat) (l0_1 : List ByteArray) (a0_2 : Int) (A0_3 : Option Addr) (c0_3 : Nat) (l0_3 : List GRule) (r : Bool) (w : World) (hr0_0 : Kd.C Kd.string w A0_0 l0_0.length l0_0) (hc0_0 : l0_0.length ≤ c0_0) (hr0_1 : Kd.C Kd.string w A0_1 l0_1.length l0_1) (hc0_1 : l0_1.length ≤ c0_1) (hr0_3 : Kd.C k35 w A0_3 l0_3.length l0_3) (hc0_3 : l0_3.length ≤ c0_3) (h : wickerlaw02_May.f l0_0 l0_1 a0_2 l0_3 = some r) :
  Calls Tryd.prog 29 #[.agg #[.slice A0_0 l0_0.length c0_0, .slice A0_1 l0_1.length c0_1, .int .i64 a0_2, .slice A0_3 l0_3.length c0_3]] w fun e w' => e = .returned (.bool r) ∧ Below w.heap.size w w' := by
 unfold wickerlaw02_May.f at h
 split at h
 ·rename_i hok
  obtain rfl := Option.some.inj h
  clear h
  have hu := Tryd.underlying25
  have hb := gram_bounds hok
  obtain ⟨K, hK⟩ := Pure.Ev.out (ref_check_f l0_0 l0_1 a0_2 l0_3 hok)
  have HK := Lib.hid (hK K (Nat.le_refl _))
  have HN := Lib.hid hb.2.2.1
  have HO := Lib.hid hb.2.2.2.2.2.2
  clear hK hb hok
  obtain ⟨c, hc⟩ : ∃ c, checkC nmB mkB l0_0 l0_1 a0_2 l0_3 = c := ⟨_, rfl⟩
  rw [hc] at HK ⊢
  clear hc
  go_enter Tryd.func29, Tryd.ntmps29
  go_wp2_with fail
  refine (of_calls A0_0 c0_0 l0_0 A0_1 c0_1 l0_1 a0_2 A0_3 c0_3 l0_3 HN.out HO.out _ (Kd.C_alloc hr0_3 _)).mono ?_
  rintro e w2 ⟨v3, rfl, hrow, hb2⟩
  have hB1 : Below w.heap.size w (w.alloc (.cells #[.slice A0_0 l0_0.length c0_0, .slice A0_1 l0_1.length c0_1, .int .i64 a0_2, .slice A0_3 l0_3.length c0_3] 25)) := (Below.refl _ _).alloc (Nat.le_refl _) _
  have hB2 : Below w.heap.size w w2 := hB1.trans (hb2.mono hB1.size)
  obtain ⟨Ao, co, rfl, hco, hC⟩ := Kd.R_reads hrow
  have HC := Lib.hid hC
  clear hrow hC hb2 hB1
  have hcall := wickerref02_Check.calls K A0_0 c0_0 l0_0 A0_1 c0_1 l0_1 a0_2 Ao co (l0_3.map ofR) c w2 (Kd.C_below hr0_0 hB2) hc0_0 (Kd.C_below hr0_1 hB2) hc0_1 HC.out hco HK.out
  simp only [List.length_map] at hcall
  have HCALL := Lib.hid hcall
  clear hcall hco
  go_wp2_with fail
  refine HCALL.out.mono ?_
  rintro e w3 ⟨rfl, hb3⟩
  have hB3 := hB2.trans (hb3.mono hB2.size)
  clear hb3 HC
  go_wp2
  go_ret
  exact ⟨rfl, hB3⟩
 ·cases h
end Go.Proofs.YtgdcnmpcfoomiaaDoor.G
end
