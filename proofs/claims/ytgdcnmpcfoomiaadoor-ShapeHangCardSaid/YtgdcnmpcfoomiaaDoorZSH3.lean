/- Chomsky's form is no empty, no unit, short and lifted together; Greibach's is no empty and no unit; without rules all forms hold.: part 4 of 4 of its proof, packed by a program of this session out of the texts GLaw041, RegT, ShapeH, LShapeHang. -/
import Derived.Test.YtgdcnmpcfoomiaaDoorZSH2
import Derived.OrdersHeld
import Derived.Below
import Derived.KernelRfl
import Derived.Deep.RegionHeld
import Derived.Deep.RegionHeld3
import Derived.Test.YtgdcnmpcfoomiaaDoorRows
import Derived.Test.YtgdcnmpcfoomiaaDoorTie
import Derived.Test.YtgdcnmpcfoomiaaDoorCards
import Derived.WalkKit
import Derived.ProofKit
import Derived.OpenShut
import Derived.ShutString
import Derived.ChangeOld
import Derived.ChangeVars
import Derived.ChangeSame
import Derived.JoinedOf
import Derived.SizedLaws
import Derived.Handed
import Derived.LaidLaws
import Derived.LaidHandle
import Derived.Lay
import Derived.MakeChecks
import Derived.Stop.Joined
import Derived.SevenTiedAt
section
namespace Go.Proofs.YtgdcnmpcfoomiaaDoor.G
open Go.RowKit Go.Proofs.YtgdcnmpcfoomiaaDoorW.PrintWords Go.Proofs.YtgdcnmpcfoomiaaDoorW.PrintLast Go.Proofs.YtgdcnmpcfoomiaaDoorW.PrintMore
attribute [local go_sem] max2_int min2_int max_two min_two max_three min_three max_four min_four
attribute [local go_sem] Go.Proofs.YtgdcnmpcfoomiaaDoorOwn.isSome_setCell
set_option linter.unusedVariables false
set_option linter.unusedSimpArgs false
def wickerlaw04_Awake.f (k : Nat)  : Option (Bool) := (some (([(⟨#[83]⟩ : ByteArray)] : List ByteArray) : List ByteArray)).bind fun y101 => ((some (([(⟨#[97]⟩ : ByteArray)] : List ByteArray) : List ByteArray)).bind fun y104 => ((some (([(⟨0, (([(-1), 0] : List Int))⟩ : S35)] : List (S35)) : List (S35))).bind fun y110 => ((wickerlaw02_Awake.f k).bind fun t114 => (if t114 = true then ((shape_Short.f y101 y104 0 y110).bind fun t115 => (if t115 = true then ((shape_Greibach.f y101 y104 0 y110).bind fun t116 => (if t116 = true then ((shape_Lifted.f y101 y104 0 y110).bind fun t117 => (if t117 = true then (some false) else ((shape_Chomsky.f y101 y104 0 y110).bind fun t118 => (some (!t118))))) else (some false))) else (some false))) else (some false)))))
theorem wickerlaw04_Awake.mono : ∀ k, LeO (wickerlaw04_Awake.f k ) (wickerlaw04_Awake.f (k + 1) ) := by
 intro  k
 unfold wickerlaw04_Awake.f
 repeat' first
   | (with_reducible exact wickerlaw02_Awake.mono _)
   | (with_reducible exact LeO.refl _)
   | (with_reducible exact LeO.none _)
   | (with_reducible refine LeO.ite ?_ ?_)
   | (with_reducible refine LeO.bind ?_ (fun _ => ?_))
   | exact wickerlaw02_Awake.mono _
   | exact LeO.none _
   | refine LeO.ite ?_ ?_
   | refine LeO.bind ?_ (fun _ => ?_)
set_option maxHeartbeats 8000000 in
set_option maxRecDepth 100000 in
theorem wickerlaw04_Awake.calls (k : Nat)  (r : Bool) (w : World) (hG : Laid w) (h : wickerlaw04_Awake.f k  = some r) :
  Calls Tryd.prog 10 #[] w fun e w' => e = .returned (.bool r) ∧ Below w.heap.size w w' := by
 have hu35 := Tryd.underlying35
 have hu25 := Tryd.underlying25
 have HG := Aside0.mk hG
 clear hG
 have HB := Aside0.mk (Below.refl w.heap.size w)
 have H : ((some (([(⟨#[83]⟩ : ByteArray)] : List ByteArray) : List ByteArray)).bind fun y101 => ((some (([(⟨#[97]⟩ : ByteArray)] : List ByteArray) : List ByteArray)).bind fun y104 => ((some (([(⟨0, (([(-1), 0] : List Int))⟩ : S35)] : List (S35)) : List (S35))).bind fun y110 => ((wickerlaw02_Awake.f k).bind fun t114 => (if t114 = true then ((shape_Short.f y101 y104 0 y110).bind fun t115 => (if t115 = true then ((shape_Greibach.f y101 y104 0 y110).bind fun t116 => (if t116 = true then ((shape_Lifted.f y101 y104 0 y110).bind fun t117 => (if t117 = true then (some false) else ((shape_Chomsky.f y101 y104 0 y110).bind fun t118 => (some (!t118))))) else (some false))) else (some false))) else (some false)))))) = some r := h
 clear h
 obtain ⟨y101, hy101⟩ : ∃ y_ : List ByteArray, y_ = (([(⟨#[83]⟩ : ByteArray)] : List ByteArray)) := ⟨_, rfl⟩
 replace H : ((some (([(⟨#[97]⟩ : ByteArray)] : List ByteArray) : List ByteArray)).bind fun y104 => ((some (([(⟨0, (([(-1), 0] : List Int))⟩ : S35)] : List (S35)) : List (S35))).bind fun y110 => ((wickerlaw02_Awake.f k).bind fun t114 => (if t114 = true then ((shape_Short.f y101 y104 0 y110).bind fun t115 => (if t115 = true then ((shape_Greibach.f y101 y104 0 y110).bind fun t116 => (if t116 = true then ((shape_Lifted.f y101 y104 0 y110).bind fun t117 => (if t117 = true then (some false) else ((shape_Chomsky.f y101 y104 0 y110).bind fun t118 => (some (!t118))))) else (some false))) else (some false))) else (some false))))) = some r := by first | (rw [hy101]; with_reducible exact H) | (have H2_ := (Option.bind_some _ _).symm.trans H; rw [hy101]; with_reducible exact H2_) | (have H2_ := (Option.bind_some _ _).symm.trans H; with_reducible exact H2_) | with_reducible exact H | (rw [hy101]; exact H) | exact H
 have Ny101 := Aside0.mk hy101
 clear hy101
 obtain ⟨y104, hy104⟩ : ∃ y_ : List ByteArray, y_ = (([(⟨#[97]⟩ : ByteArray)] : List ByteArray)) := ⟨_, rfl⟩
 replace H : ((some (([(⟨0, (([(-1), 0] : List Int))⟩ : S35)] : List (S35)) : List (S35))).bind fun y110 => ((wickerlaw02_Awake.f k).bind fun t114 => (if t114 = true then ((shape_Short.f y101 y104 0 y110).bind fun t115 => (if t115 = true then ((shape_Greibach.f y101 y104 0 y110).bind fun t116 => (if t116 = true then ((shape_Lifted.f y101 y104 0 y110).bind fun t117 => (if t117 = true then (some false) else ((shape_Chomsky.f y101 y104 0 y110).bind fun t118 => (some (!t118))))) else (some false))) else (some false))) else (some false)))) = some r := by first | (rw [hy104]; with_reducible exact H) | (have H2_ := (Option.bind_some _ _).symm.trans H; rw [hy104]; with_reducible exact H2_) | (have H2_ := (Option.bind_some _ _).symm.trans H; with_reducible exact H2_) | with_reducible exact H | (rw [hy104]; exact H) | exact H
 have Ny104 := Aside0.mk hy104
 clear hy104
 obtain ⟨y107, hy107⟩ : ∃ y_ : List Int, y_ = (([(-1), 0] : List Int)) := ⟨_, rfl⟩
 replace H : ((some (([(⟨0, y107⟩ : S35)] : List (S35)) : List (S35))).bind fun y110 => ((wickerlaw02_Awake.f k).bind fun t114 => (if t114 = true then ((shape_Short.f y101 y104 0 y110).bind fun t115 => (if t115 = true then ((shape_Greibach.f y101 y104 0 y110).bind fun t116 => (if t116 = true then ((shape_Lifted.f y101 y104 0 y110).bind fun t117 => (if t117 = true then (some false) else ((shape_Chomsky.f y101 y104 0 y110).bind fun t118 => (some (!t118))))) else (some false))) else (some false))) else (some false)))) = some r := by first | (rw [hy107]; with_reducible exact H) | (have H2_ := (Option.bind_some _ _).symm.trans H; rw [hy107]; with_reducible exact H2_) | (have H2_ := (Option.bind_some _ _).symm.trans H; with_reducible exact H2_) | with_reducible exact H | (rw [hy107]; exact H) | exact H
 have Ny107 := Aside0.mk hy107
 clear hy107
 obtain ⟨y110, hy110⟩ : ∃ y_ : List (S35), y_ = (([(⟨0, y107⟩ : S35)] : List (S35))) := ⟨_, rfl⟩
 replace H : ((wickerlaw02_Awake.f k).bind fun t114 => (if t114 = true then ((shape_Short.f y101 y104 0 y110).bind fun t115 => (if t115 = true then ((shape_Greibach.f y101 y104 0 y110).bind fun t116 => (if t116 = true then ((shape_Lifted.f y101 y104 0 y110).bind fun t117 => (if t117 = true then (some false) else ((shape_Chomsky.f y101 y104 0 y110).bind fun t118 => (some (!t118))))) else (some false))) else (some false))) else (some false))) = some r := by first | (rw [hy110]; with_reducible exact H) | (have H2_ := (Option.bind_some _ _).symm.trans H; rw [hy110]; with_reducible exact H2_) | (have H2_ := (Option.bind_some _ _).symm.trans H; with_reducible exact H2_) | with_reducible exact H | (rw [hy110]; exact H) | exact H
 have Ny110 := Aside0.mk hy110
 clear hy110
 replace H := Option.bind_eq_some_iff.mp H
 obtain ⟨t114, A10, H⟩ := H
 replace H : (if t114 = true then ((shape_Short.f y101 y104 0 y110).bind fun t115 => (if t115 = true then ((shape_Greibach.f y101 y104 0 y110).bind fun t116 => (if t116 = true then ((shape_Lifted.f y101 y104 0 y110).bind fun t117 => (if t117 = true then (some false) else ((shape_Chomsky.f y101 y104 0 y110).bind fun t118 => (some (!t118))))) else (some false))) else (some false))) else (some false)) = some r := H
 have A1 := Aside0.mk A10
 clear A10
 by_cases c2 : t114 = true
 ·subst c2
  have H1 : ((shape_Short.f y101 y104 0 y110).bind fun t115 => (if t115 = true then ((shape_Greibach.f y101 y104 0 y110).bind fun t116 => (if t116 = true then ((shape_Lifted.f y101 y104 0 y110).bind fun t117 => (if t117 = true then (some false) else ((shape_Chomsky.f y101 y104 0 y110).bind fun t118 => (some (!t118))))) else (some false))) else (some false))) = some r := by rw [if_pos rfl] at H; exact H
  clear H
  have H := H1
  clear H1
  replace H := Option.bind_eq_some_iff.mp H
  obtain ⟨t115, A30, H⟩ := H
  replace H : (if t115 = true then ((shape_Greibach.f y101 y104 0 y110).bind fun t116 => (if t116 = true then ((shape_Lifted.f y101 y104 0 y110).bind fun t117 => (if t117 = true then (some false) else ((shape_Chomsky.f y101 y104 0 y110).bind fun t118 => (some (!t118))))) else (some false))) else (some false)) = some r := H
  have A3 := Aside0.mk A30
  clear A30
  by_cases c4 : t115 = true
  ·subst c4
   have H1 : ((shape_Greibach.f y101 y104 0 y110).bind fun t116 => (if t116 = true then ((shape_Lifted.f y101 y104 0 y110).bind fun t117 => (if t117 = true then (some false) else ((shape_Chomsky.f y101 y104 0 y110).bind fun t118 => (some (!t118))))) else (some false))) = some r := by rw [if_pos rfl] at H; exact H
   clear H
   have H := H1
   clear H1
   replace H := Option.bind_eq_some_iff.mp H
   obtain ⟨t116, A50, H⟩ := H
   replace H : (if t116 = true then ((shape_Lifted.f y101 y104 0 y110).bind fun t117 => (if t117 = true then (some false) else ((shape_Chomsky.f y101 y104 0 y110).bind fun t118 => (some (!t118))))) else (some false)) = some r := H
   have A5 := Aside0.mk A50
   clear A50
   by_cases c6 : t116 = true
   ·subst c6
    have H1 : ((shape_Lifted.f y101 y104 0 y110).bind fun t117 => (if t117 = true then (some false) else ((shape_Chomsky.f y101 y104 0 y110).bind fun t118 => (some (!t118))))) = some r := by rw [if_pos rfl] at H; exact H
    clear H
    have H := H1
    clear H1
    replace H := Option.bind_eq_some_iff.mp H
    obtain ⟨t117, A70, H⟩ := H
    replace H : (if t117 = true then (some false) else ((shape_Chomsky.f y101 y104 0 y110).bind fun t118 => (some (!t118)))) = some r := H
    have A7 := Aside0.mk A70
    clear A70
    by_cases c8 : t117 = true
    ·subst c8
     have H1 : (some false) = some r := by rw [if_pos rfl] at H; exact H
     clear H
     have H := H1
     clear H1
     obtain rfl := Option.some.inj H
     go_enter Tryd.func10, Tryd.ntmps10
     go_wp2_with (first | ((with_reducible refine gate_dst (N := 2) rfl ?_); refine Kd.R_lit Kd.string _ 9 ?hg (N := 2) ?hd (xs := ([(⟨#[83]⟩ : ByteArray)] : List ByteArray)) (inner := [.string (⟨#[83]⟩ : ByteArray)]) (ok := fun _ => True) (okp := fun _ => True) ?hr ?hp (fun _ hk => hk) trivial (Below.refl _ _) (Nat.le_refl _) (by simp) ?_; (case hd => rfl); (case hg => rfl); (case hr => first | (go_simp; done) | (go_simp; rfl)); (case hp => exact (Reps.one (show Kd.M Kd.string _ _ _ (⟨#[83]⟩ : ByteArray) [.string (⟨#[83]⟩ : ByteArray)] from rfl) (Reps.none _ _))); intro v102 w9 ho10 hb hg_ hnew_; clear hg_ hnew_; (first | rw [← Ny101.out] at ho10 | (simp only [Int.reduceToNat] at ho10; rw [← Ny101.out] at ho10)); have n0_ := Aside0.mk (Kd.R_lower ho10 (below_size (by repeat (first | (with_reducible first | exact HB.out | apply below_alloc | apply pw_below_drewN | apply below_drew1) | exact HB.out)))); have n1_ := Aside0.mk (below_step (by repeat (first | (with_reducible first | exact HB.out | apply below_alloc | apply pw_below_drewN | apply below_drew1) | exact HB.out)) hb); clear HB; have HO103 := n0_; have HB := n1_; clear n0_ n1_; clear hb ho10) | ((with_reducible refine gate_dst (N := 3) rfl ?_); refine Kd.R_lit Kd.string _ 9 ?hg (N := 3) ?hd (xs := ([(⟨#[97]⟩ : ByteArray)] : List ByteArray)) (inner := [.string (⟨#[97]⟩ : ByteArray)]) (ok := fun _ => True) (okp := fun _ => True) ?hr ?hp (fun _ hk => hk) trivial (Below.refl _ _) (Nat.le_refl _) (by simp) ?_; (case hd => rfl); (case hg => rfl); (case hr => first | (go_simp; done) | (go_simp; rfl)); (case hp => exact (Reps.one (show Kd.M Kd.string _ _ _ (⟨#[97]⟩ : ByteArray) [.string (⟨#[97]⟩ : ByteArray)] from rfl) (Reps.none _ _))); intro v105 w11 ho12 hb hg_ hnew_; clear hg_ hnew_; (first | rw [← Ny104.out] at ho12 | (simp only [Int.reduceToNat] at ho12; rw [← Ny104.out] at ho12)); have n0_ := Aside0.mk (Kd.R_elder' (by (with_reducible repeat (first | apply Kd.R_alloc | apply Kd.R_drewN | apply Kd.R_drew)); exact HO103.out) (Kd.R_base ho12) hb); have n1_ := Aside0.mk (Kd.R_lower (Kd.R_new' ho12 (Kd.R_lt (by (with_reducible repeat (first | apply Kd.R_alloc | apply Kd.R_drewN | apply Kd.R_drew)); exact HO103.out))) (below_size (by repeat (first | (with_reducible first | exact HB.out | apply below_alloc | apply pw_below_drewN | apply below_drew1) | exact HB.out)))); have n2_ := Aside0.mk (below_step (by repeat (first | (with_reducible first | exact HB.out | apply below_alloc | apply pw_below_drewN | apply below_drew1) | exact HB.out)) hb); clear HO103; clear HB; have HO103 := n0_; have HO106 := n1_; have HB := n2_; clear n0_ n1_ n2_; clear hb ho12) | ((with_reducible refine gate_dst (N := 4) rfl ?_); refine Kd.R_lit (Kd.int .i64) _ 55 ?hg (N := 4) ?hd (xs := ([(-1), 0] : List Int)) (inner := [.int .i64 (-1), .int .i64 0]) (ok := fun _ => True) (okp := fun _ => True) ?hr ?hp (fun _ hk => hk) trivial (Below.refl _ _) (Nat.le_refl _) (by simp) ?_; (case hd => rfl); (case hg => rfl); (case hr => first | (go_simp; done) | (go_simp; rfl)); (case hp => exact (Reps.one (show Kd.M (Kd.int .i64) _ _ _ (-1) [.int .i64 (-1)] from rfl) (Reps.one (show Kd.M (Kd.int .i64) _ _ _ 0 [.int .i64 0] from rfl) (Reps.none _ _)))); intro v108 w13 ho14 hb hg_ hnew_; clear hg_ hnew_; (first | rw [← Ny107.out] at ho14 | (simp only [Int.reduceToNat] at ho14; rw [← Ny107.out] at ho14)); have n0_ := Aside0.mk (Kd.R_below (by (with_reducible repeat (first | apply Kd.R_alloc | apply Kd.R_drewN | apply Kd.R_drew)); exact HO103.out) hb); have n1_ := Aside0.mk (Kd.R_below (by (with_reducible repeat (first | apply Kd.R_alloc | apply Kd.R_drewN | apply Kd.R_drew)); exact HO106.out) hb); have n2_ := Aside0.mk (Kd.R_lower ho14 (below_size (by repeat (first | (with_reducible first | exact HB.out | apply below_alloc | apply pw_below_drewN | apply below_drew1) | exact HB.out)))); have n3_ := Aside0.mk (below_step (by repeat (first | (with_reducible first | exact HB.out | apply below_alloc | apply pw_below_drewN | apply below_drew1) | exact HB.out)) hb); clear HO103; clear HO106; clear HB; have HO103 := n0_; have HO106 := n1_; have HO109 := n2_; have HB := n3_; clear n0_ n1_ n2_ n3_; clear hb ho14; obtain ⟨Ao15, co15, eo15⟩ := Kd.R_slice HO109.out; subst eo15) | ((with_reducible refine gate_dst (N := 6) rfl ?_); refine Kd.N_lit k35 _ 35 ?hg (N' := 6) ?hd (xs := ([(⟨0, y107⟩ : S35)] : List (S35))) (inner := [.int .i64 0, .slice Ao15 y107.length co15]) (ok := (fun k_ => some k_ ≠ (v102 : Value).ownBlock ∧ some k_ ≠ (v105 : Value).ownBlock)) (okp := (fun k_ => some k_ ≠ (v102 : Value).ownBlock ∧ some k_ ≠ (v105 : Value).ownBlock)) ?hr ?hp (fun _ hk => hk) ((show ∀ k_, w13.heap.size ≤ k_ → (fun k_ => some k_ ≠ (v102 : Value).ownBlock ∧ some k_ ≠ (v105 : Value).ownBlock) k_ from fun k_ hk => ⟨Kd.fresh' (Kd.R_lt (by (with_reducible repeat (first | apply Kd.R_alloc | apply Kd.R_drewN | apply Kd.R_drew)); exact HO103.out)) k_ hk, Kd.fresh' (Kd.R_lt (by (with_reducible repeat (first | apply Kd.R_alloc | apply Kd.R_drewN | apply Kd.R_drew)); exact HO106.out)) k_ hk⟩) _ (Nat.le_refl _)) (Below.refl _ _) (Nat.le_refl _) (by simp) ?_; (case hd => rfl); (case hg => rfl); (case hr => first | (go_simp; done) | (go_simp; rfl)); (case hp => exact (Reps.c2 (show Kd.FK k35 _ _ (⟨0, y107⟩ : S35) [.int .i64 0, .slice Ao15 y107.length co15] from (k35_mkF _ _ (⟨0, y107⟩ : S35) (Kd.R_reads' (Kd.R_mono (ok' := (fun k_ => some k_ ≠ (v102 : Value).ownBlock ∧ some k_ ≠ (v105 : Value).ownBlock)) (Kd.R_apart' (Kd.R_apart' (HO109.out) (Kd.R_typed HO103.out) (by decide)) (Kd.R_typed HO106.out) (by decide)) (fun k_ hk => ⟨hk.1.2, hk.2⟩))).2.1 (Kd.R_F (Kd.R_mono (ok' := (fun k_ => some k_ ≠ (v102 : Value).ownBlock ∧ some k_ ≠ (v105 : Value).ownBlock)) (Kd.R_apart' (Kd.R_apart' (HO109.out) (Kd.R_typed HO103.out) (by decide)) (Kd.R_typed HO106.out) (by decide)) (fun k_ hk => ⟨hk.1.2, hk.2⟩))))) (Reps.none _ _))); intro v111 w16 ho17 hb hg_ hnew_; clear hg_ hnew_; (first | rw [← Ny110.out] at ho17 | (simp only [Int.reduceToNat] at ho17; rw [← Ny110.out] at ho17)); have n0_ := Aside0.mk (Kd.R_below (by (with_reducible repeat (first | apply Kd.R_alloc | apply Kd.R_drewN | apply Kd.R_drew)); exact HO103.out) hb); have n1_ := Aside0.mk (Kd.R_below (by (with_reducible repeat (first | apply Kd.R_alloc | apply Kd.R_drewN | apply Kd.R_drew)); exact HO106.out) hb); have n2_ := Aside0.mk (Kd.N_lower ho17 (below_size (by repeat (first | (with_reducible first | exact HB.out | apply below_alloc | apply pw_below_drewN | apply below_drew1) | exact HB.out)))); have n3_ := Aside0.mk (below_step (by repeat (first | (with_reducible first | exact HB.out | apply below_alloc | apply pw_below_drewN | apply below_drew1) | exact HB.out)) hb); clear HO103; clear HO106; clear HB; clear HO109; have HO103 := n0_; have HO106 := n1_; have HO112 := n2_; have HB := n3_; clear n0_ n1_ n2_ n3_; clear hb ho17; obtain ⟨Ao18, co18, eo18⟩ := Kd.N_slice HO112.out; subst eo18; obtain ⟨Ao19, co19, eo19⟩ := Kd.R_slice HO106.out; subst eo19; obtain ⟨Ao20, co20, eo20⟩ := Kd.R_slice HO103.out; subst eo20) | ((with_reducible refine gate_dst (N := 1) rfl ?_); refine box_event ?hg (N := 1) ?hd (cs := #[.slice none 0 0, .slice none 0 0, .int .i64 0, .slice none 0 0]) (t := 25) ?hr ?_; (case hd => rfl); (case hg => rfl); (case hr => first | (go_simp; done) | (go_simp; rfl)); intro gb113 hg w21 hbox hb; have n0_ := Aside0.mk (Kd.R_below (by (with_reducible repeat (first | apply Kd.R_alloc | apply Kd.R_drewN | apply Kd.R_drew)); exact HO103.out) hb); have n1_ := Aside0.mk (Kd.R_below (by (with_reducible repeat (first | apply Kd.R_alloc | apply Kd.R_drewN | apply Kd.R_drew)); exact HO106.out) hb); have n2_ := Aside0.mk (Kd.N_below (Kd.N_elderB (by (with_reducible repeat (first | apply Kd.N_alloc | apply Kd.N_drewN | apply Kd.N_drew)); exact HO112.out) gb113 (Nat.le_of_eq hg.symm)) hb); have n3_ := Aside0.mk (below_step (by repeat (first | (with_reducible first | exact HB.out | apply below_alloc | apply pw_below_drewN | apply below_drew1) | exact HB.out)) hb); have n4_ := Aside0.mk (hbox); have n5_ := Aside0.mk ((by rw [hg]; exact (below_size (by repeat (first | (with_reducible first | exact HB.out | apply below_alloc | apply pw_below_drewN | apply below_drew1) | exact HB.out))) : w.heap.size ≤ gb113)); have n6_ := Aside0.mk ((by rw [hg]; exact (below_size (by repeat (first | (with_reducible first | exact HB.out | apply below_alloc | apply pw_below_drewN | apply below_drew1) | exact HB.out))) : w.heap.size ≤ gb113)); clear HO103; clear HO106; clear HO112; clear HB; have HO103 := n0_; have HO106 := n1_; have HO112 := n2_; have HB := n3_; have BK113 := n4_; have GW113 := n5_; have GE113 := n6_; clear n0_ n1_ n2_ n3_ n4_ n5_ n6_; clear hb hbox hg; have hcz22_0 : w21.cell? ⟨gb113, 0, none⟩ = some (.slice none 0 0) := (blk_cell BK113.out 0).trans rfl; have hcz22_1 : w21.cell? ⟨gb113, 1, none⟩ = some (.slice none 0 0) := (blk_cell BK113.out 1).trans rfl; have hcz22_2 : w21.cell? ⟨gb113, 2, none⟩ = some (.int .i64 0) := (blk_cell BK113.out 2).trans rfl; have hcz22_3 : w21.cell? ⟨gb113, 3, none⟩ = some (.slice none 0 0) := (blk_cell BK113.out 3).trans rfl; have hfz22_0 := blk_frozen BK113.out 0; have hfz22_1 := blk_frozen BK113.out 1; have hfz22_2 := blk_frozen BK113.out 2; have hfz22_3 := blk_frozen BK113.out 3) | ((with_reducible refine gate_callee (f := 19) rfl ?_); refine goesL_ (some 8) rfl rfl Tryd.func19 (by kernel_rfl) rfl #[] rfl (by (try simp only [List.map_toArray, List.map_cons, List.map_nil]); first | done | rfl | (simp only [List.length_drop, List.length_take]; rfl)) ?_; (with_reducible refine (wickerlaw02_Awake.calls k  true _ ?side1 A1.out).mono ?_); (case side1 => exact Laid.below HG.out (by repeat (first | (with_reducible first | exact HB.out | apply below_alloc | apply pw_below_drewN | apply below_drew1 | refine below_set ?_ GE113.out) | exact HB.out))); rintro e w23 ⟨rfl, hb⟩; refine ⟨_, rfl, ?_⟩; have n0_ := Aside0.mk (Kd.R_below (by (with_reducible repeat (first | apply Kd.R_alloc | apply Kd.R_drewN | apply Kd.R_drew)); exact (Kd.R_mono (Kd.R_far (p := ⟨gb113, 3, none⟩) (Kd.R_far (p := ⟨gb113, 2, none⟩) (Kd.R_far (p := ⟨gb113, 1, none⟩) (Kd.R_far (p := ⟨gb113, 0, none⟩) (Kd.R_types HO103.out BK113.out (by decide)) (fun _ hk => hk.2) (.slice Ao20 y101.length co20)) (fun _ hk => hk.2) (.slice Ao19 y104.length co19)) (fun _ hk => hk.2) (.int .i64 0)) (fun _ hk => hk.2) (.slice Ao18 y110.length co18)) (fun _ h_ => h_.1))) hb); have n1_ := Aside0.mk (Kd.R_below (by (with_reducible repeat (first | apply Kd.R_alloc | apply Kd.R_drewN | apply Kd.R_drew)); exact (Kd.R_mono (Kd.R_far (p := ⟨gb113, 3, none⟩) (Kd.R_far (p := ⟨gb113, 2, none⟩) (Kd.R_far (p := ⟨gb113, 1, none⟩) (Kd.R_far (p := ⟨gb113, 0, none⟩) (Kd.R_types HO106.out BK113.out (by decide)) (fun _ hk => hk.2) (.slice Ao20 y101.length co20)) (fun _ hk => hk.2) (.slice Ao19 y104.length co19)) (fun _ hk => hk.2) (.int .i64 0)) (fun _ hk => hk.2) (.slice Ao18 y110.length co18)) (fun _ h_ => h_.1))) hb); have n2_ := Aside0.mk (Kd.N_below (by (with_reducible repeat (first | apply Kd.N_alloc | apply Kd.N_drewN | apply Kd.N_drew)); exact (Kd.N_mono (Kd.N_far (p := ⟨gb113, 3, none⟩) (Kd.N_far (p := ⟨gb113, 2, none⟩) (Kd.N_far (p := ⟨gb113, 1, none⟩) (Kd.N_far (p := ⟨gb113, 0, none⟩) (Kd.N_mono HO112.out (fun k_ hk => (⟨hk, hk.2⟩ : _ ∧ k_ ≠ gb113))) (fun _ hk => hk.2) (.slice Ao20 y101.length co20)) (fun _ hk => hk.2) (.slice Ao19 y104.length co19)) (fun _ hk => hk.2) (.int .i64 0)) (fun _ hk => hk.2) (.slice Ao18 y110.length co18)) (fun _ h_ => h_.1))) hb); have n3_ := Aside0.mk (blk_below (g := gb113) (o := .cells #[.slice Ao20 y101.length co20, .slice Ao19 y104.length co19, .int .i64 0, .slice Ao18 y110.length co18] 25 (0, 0)) (by (with_reducible repeat (first | refine blk_drewN ?_ _ | refine blk_drew ?_ | refine blk_alloc ?_ _)); refine blk_put (cs := #[.slice Ao20 y101.length co20, .slice Ao19 y104.length co19, .int .i64 0, .slice none 0 0]) ?_ 3 _ rfl; (with_reducible repeat (first | refine blk_drewN ?_ _ | refine blk_drew ?_ | refine blk_alloc ?_ _)); refine blk_put (cs := #[.slice Ao20 y101.length co20, .slice Ao19 y104.length co19, .int .i64 0, .slice none 0 0]) ?_ 2 _ rfl; (with_reducible repeat (first | refine blk_drewN ?_ _ | refine blk_drew ?_ | refine blk_alloc ?_ _)); refine blk_put (cs := #[.slice Ao20 y101.length co20, .slice none 0 0, .int .i64 0, .slice none 0 0]) ?_ 1 _ rfl; (with_reducible repeat (first | refine blk_drewN ?_ _ | refine blk_drew ?_ | refine blk_alloc ?_ _)); refine blk_put (cs := #[.slice none 0 0, .slice none 0 0, .int .i64 0, .slice none 0 0]) ?_ 0 _ rfl; (with_reducible repeat (first | refine blk_drewN ?_ _ | refine blk_drew ?_ | refine blk_alloc ?_ _)); exact BK113.out) hb); have n4_ := Aside0.mk (below_step (by repeat (first | (with_reducible first | exact HB.out | apply below_alloc | apply pw_below_drewN | apply below_drew1 | refine below_set ?_ GE113.out) | exact HB.out)) hb); clear HO103; clear HO106; clear HO112; clear BK113; clear HB; have HO103 := n0_; have HO106 := n1_; have HO112 := n2_; have BK113 := n3_; have HB := n4_; clear n0_ n1_ n2_ n3_ n4_; (try clear hb); (try clear hb2); (try clear hk); (try clear hi); have hcz24_0 : w23.cell? ⟨gb113, 0, none⟩ = some (.slice Ao20 y101.length co20) := (blk_cell BK113.out 0).trans rfl; have hcz24_1 : w23.cell? ⟨gb113, 1, none⟩ = some (.slice Ao19 y104.length co19) := (blk_cell BK113.out 1).trans rfl; have hcz24_2 : w23.cell? ⟨gb113, 2, none⟩ = some (.int .i64 0) := (blk_cell BK113.out 2).trans rfl; have hcz24_3 : w23.cell? ⟨gb113, 3, none⟩ = some (.slice Ao18 y110.length co18) := (blk_cell BK113.out 3).trans rfl; have hfz24_0 := blk_frozen BK113.out 0; have hfz24_1 := blk_frozen BK113.out 1; have hfz24_2 := blk_frozen BK113.out 2; have hfz24_3 := blk_frozen BK113.out 3) | (go_at_call 15; (with_reducible refine (shape_Short.calls _ _ y101 _ _ y104 0 _ _ y110 true _ ?side1 ?side2 ?side3 ?side4 ?side5 ?side6 A3.out).mono ?_); (case side1 => repeat (first | exact (Kd.R_reads' HO103.out).2.2 | (with_reducible refine Kd.C_alloc ?_ _) | (with_reducible refine Kd.C_drewN ?_ _) | (with_reducible refine Kd.C_drew ?_))); (case side2 => exact (Kd.R_reads' HO103.out).2.1); (case side3 => repeat (first | exact (Kd.R_reads' HO106.out).2.2 | (with_reducible refine Kd.C_alloc ?_ _) | (with_reducible refine Kd.C_drewN ?_ _) | (with_reducible refine Kd.C_drew ?_))); (case side4 => exact (Kd.R_reads' HO106.out).2.1); (case side5 => repeat (first | exact (Kd.N_reads' HO112.out).2.2 | (with_reducible refine Kd.C_alloc ?_ _) | (with_reducible refine Kd.C_drewN ?_ _) | (with_reducible refine Kd.C_drew ?_))); (case side6 => exact (Kd.N_reads' HO112.out).2.1); rintro e w25 ⟨rfl, hb⟩; have n0_ := Aside0.mk (Kd.R_below (by (with_reducible repeat (first | apply Kd.R_alloc | apply Kd.R_drewN | apply Kd.R_drew)); exact HO103.out) hb); have n1_ := Aside0.mk (Kd.R_below (by (with_reducible repeat (first | apply Kd.R_alloc | apply Kd.R_drewN | apply Kd.R_drew)); exact HO106.out) hb); have n2_ := Aside0.mk (Kd.N_below (by (with_reducible repeat (first | apply Kd.N_alloc | apply Kd.N_drewN | apply Kd.N_drew)); exact HO112.out) hb); have n3_ := Aside0.mk (blk_below (g := gb113) (o := .cells #[.slice Ao20 y101.length co20, .slice Ao19 y104.length co19, .int .i64 0, .slice Ao18 y110.length co18] 25 (0, 0)) (by (with_reducible repeat (first | refine blk_drewN ?_ _ | refine blk_drew ?_ | refine blk_alloc ?_ _)); exact BK113.out) hb); have n4_ := Aside0.mk (below_step (by repeat (first | (with_reducible first | exact HB.out | apply below_alloc | apply pw_below_drewN | apply below_drew1 | refine below_set ?_ GE113.out) | exact HB.out)) hb); clear HO103; clear HO106; clear HO112; clear BK113; clear HB; have HO103 := n0_; have HO106 := n1_; have HO112 := n2_; have BK113 := n3_; have HB := n4_; clear n0_ n1_ n2_ n3_ n4_; (try clear hb); (try clear hb2); (try clear hk); (try clear hi); have hcz26_0 : w25.cell? ⟨gb113, 0, none⟩ = some (.slice Ao20 y101.length co20) := (blk_cell BK113.out 0).trans rfl; have hcz26_1 : w25.cell? ⟨gb113, 1, none⟩ = some (.slice Ao19 y104.length co19) := (blk_cell BK113.out 1).trans rfl; have hcz26_2 : w25.cell? ⟨gb113, 2, none⟩ = some (.int .i64 0) := (blk_cell BK113.out 2).trans rfl; have hcz26_3 : w25.cell? ⟨gb113, 3, none⟩ = some (.slice Ao18 y110.length co18) := (blk_cell BK113.out 3).trans rfl; have hfz26_0 := blk_frozen BK113.out 0; have hfz26_1 := blk_frozen BK113.out 1; have hfz26_2 := blk_frozen BK113.out 2; have hfz26_3 := blk_frozen BK113.out 3) | (go_at_call 18; (with_reducible refine (shape_Greibach.calls _ _ y101 _ _ y104 0 _ _ y110 true _ ?side1 ?side2 ?side3 ?side4 ?side5 ?side6 A5.out).mono ?_); (case side1 => repeat (first | exact (Kd.R_reads' HO103.out).2.2 | (with_reducible refine Kd.C_alloc ?_ _) | (with_reducible refine Kd.C_drewN ?_ _) | (with_reducible refine Kd.C_drew ?_))); (case side2 => exact (Kd.R_reads' HO103.out).2.1); (case side3 => repeat (first | exact (Kd.R_reads' HO106.out).2.2 | (with_reducible refine Kd.C_alloc ?_ _) | (with_reducible refine Kd.C_drewN ?_ _) | (with_reducible refine Kd.C_drew ?_))); (case side4 => exact (Kd.R_reads' HO106.out).2.1); (case side5 => repeat (first | exact (Kd.N_reads' HO112.out).2.2 | (with_reducible refine Kd.C_alloc ?_ _) | (with_reducible refine Kd.C_drewN ?_ _) | (with_reducible refine Kd.C_drew ?_))); (case side6 => exact (Kd.N_reads' HO112.out).2.1); rintro e w27 ⟨rfl, hb⟩; have n0_ := Aside0.mk (Kd.R_below (by (with_reducible repeat (first | apply Kd.R_alloc | apply Kd.R_drewN | apply Kd.R_drew)); exact HO103.out) hb); have n1_ := Aside0.mk (Kd.R_below (by (with_reducible repeat (first | apply Kd.R_alloc | apply Kd.R_drewN | apply Kd.R_drew)); exact HO106.out) hb); have n2_ := Aside0.mk (Kd.N_below (by (with_reducible repeat (first | apply Kd.N_alloc | apply Kd.N_drewN | apply Kd.N_drew)); exact HO112.out) hb); have n3_ := Aside0.mk (blk_below (g := gb113) (o := .cells #[.slice Ao20 y101.length co20, .slice Ao19 y104.length co19, .int .i64 0, .slice Ao18 y110.length co18] 25 (0, 0)) (by (with_reducible repeat (first | refine blk_drewN ?_ _ | refine blk_drew ?_ | refine blk_alloc ?_ _)); exact BK113.out) hb); have n4_ := Aside0.mk (below_step (by repeat (first | (with_reducible first | exact HB.out | apply below_alloc | apply pw_below_drewN | apply below_drew1 | refine below_set ?_ GE113.out) | exact HB.out)) hb); clear HO103; clear HO106; clear HO112; clear BK113; clear HB; have HO103 := n0_; have HO106 := n1_; have HO112 := n2_; have BK113 := n3_; have HB := n4_; clear n0_ n1_ n2_ n3_ n4_; (try clear hb); (try clear hb2); (try clear hk); (try clear hi); have hcz28_0 : w27.cell? ⟨gb113, 0, none⟩ = some (.slice Ao20 y101.length co20) := (blk_cell BK113.out 0).trans rfl; have hcz28_1 : w27.cell? ⟨gb113, 1, none⟩ = some (.slice Ao19 y104.length co19) := (blk_cell BK113.out 1).trans rfl; have hcz28_2 : w27.cell? ⟨gb113, 2, none⟩ = some (.int .i64 0) := (blk_cell BK113.out 2).trans rfl; have hcz28_3 : w27.cell? ⟨gb113, 3, none⟩ = some (.slice Ao18 y110.length co18) := (blk_cell BK113.out 3).trans rfl; have hfz28_0 := blk_frozen BK113.out 0; have hfz28_1 := blk_frozen BK113.out 1; have hfz28_2 := blk_frozen BK113.out 2; have hfz28_3 := blk_frozen BK113.out 3) | (go_at_call 16; (with_reducible refine (shape_Lifted.calls _ _ y101 _ _ y104 0 _ _ y110 true _ ?side1 ?side2 ?side3 ?side4 ?side5 ?side6 A7.out).mono ?_); (case side1 => repeat (first | exact (Kd.R_reads' HO103.out).2.2 | (with_reducible refine Kd.C_alloc ?_ _) | (with_reducible refine Kd.C_drewN ?_ _) | (with_reducible refine Kd.C_drew ?_))); (case side2 => exact (Kd.R_reads' HO103.out).2.1); (case side3 => repeat (first | exact (Kd.R_reads' HO106.out).2.2 | (with_reducible refine Kd.C_alloc ?_ _) | (with_reducible refine Kd.C_drewN ?_ _) | (with_reducible refine Kd.C_drew ?_))); (case side4 => exact (Kd.R_reads' HO106.out).2.1); (case side5 => repeat (first | exact (Kd.N_reads' HO112.out).2.2 | (with_reducible refine Kd.C_alloc ?_ _) | (with_reducible refine Kd.C_drewN ?_ _) | (with_reducible refine Kd.C_drew ?_))); (case side6 => exact (Kd.N_reads' HO112.out).2.1); rintro e w29 ⟨rfl, hb⟩; have n0_ := Aside0.mk (Kd.R_below (by (with_reducible repeat (first | apply Kd.R_alloc | apply Kd.R_drewN | apply Kd.R_drew)); exact HO103.out) hb); have n1_ := Aside0.mk (Kd.R_below (by (with_reducible repeat (first | apply Kd.R_alloc | apply Kd.R_drewN | apply Kd.R_drew)); exact HO106.out) hb); have n2_ := Aside0.mk (Kd.N_below (by (with_reducible repeat (first | apply Kd.N_alloc | apply Kd.N_drewN | apply Kd.N_drew)); exact HO112.out) hb); have n3_ := Aside0.mk (blk_below (g := gb113) (o := .cells #[.slice Ao20 y101.length co20, .slice Ao19 y104.length co19, .int .i64 0, .slice Ao18 y110.length co18] 25 (0, 0)) (by (with_reducible repeat (first | refine blk_drewN ?_ _ | refine blk_drew ?_ | refine blk_alloc ?_ _)); exact BK113.out) hb); have n4_ := Aside0.mk (below_step (by repeat (first | (with_reducible first | exact HB.out | apply below_alloc | apply pw_below_drewN | apply below_drew1 | refine below_set ?_ GE113.out) | exact HB.out)) hb); clear HO103; clear HO106; clear HO112; clear BK113; clear HB; have HO103 := n0_; have HO106 := n1_; have HO112 := n2_; have BK113 := n3_; have HB := n4_; clear n0_ n1_ n2_ n3_ n4_; (try clear hb); (try clear hb2); (try clear hk); (try clear hi)))
     go_ret
     exact ⟨by first | rfl | (simp [errW_none, errW_some] <;> rfl) | (simp [*, errW_none, errW_some] <;> rfl), by repeat (first | (with_reducible first | exact HB.out | apply below_alloc | apply pw_below_drewN | apply below_drew1 | refine below_set ?_ GE113.out) | exact HB.out)⟩
    ·replace c8 := Bool.eq_false_iff.mpr c8
     subst c8
     have H1 : ((shape_Chomsky.f y101 y104 0 y110).bind fun t118 => (some (!t118))) = some r := by rw [if_neg (show ¬ (false = true) by decide)] at H; exact H
     clear H
     have H := H1
     clear H1
     replace H := Option.bind_eq_some_iff.mp H
     obtain ⟨t118, A300, H⟩ := H
     replace H : (some (!t118)) = some r := H
     have A30 := Aside0.mk A300
     clear A300
     obtain rfl := Option.some.inj H
     go_enter Tryd.func10, Tryd.ntmps10
     go_wp2_with (first | ((with_reducible refine gate_dst (N := 2) rfl ?_); refine Kd.R_lit Kd.string _ 9 ?hg (N := 2) ?hd (xs := ([(⟨#[83]⟩ : ByteArray)] : List ByteArray)) (inner := [.string (⟨#[83]⟩ : ByteArray)]) (ok := fun _ => True) (okp := fun _ => True) ?hr ?hp (fun _ hk => hk) trivial (Below.refl _ _) (Nat.le_refl _) (by simp) ?_; (case hd => rfl); (case hg => rfl); (case hr => first | (go_simp; done) | (go_simp; rfl)); (case hp => exact (Reps.one (show Kd.M Kd.string _ _ _ (⟨#[83]⟩ : ByteArray) [.string (⟨#[83]⟩ : ByteArray)] from rfl) (Reps.none _ _))); intro v102 w31 ho32 hb hg_ hnew_; clear hg_ hnew_; (first | rw [← Ny101.out] at ho32 | (simp only [Int.reduceToNat] at ho32; rw [← Ny101.out] at ho32)); have n0_ := Aside0.mk (Kd.R_lower ho32 (below_size (by repeat (first | (with_reducible first | exact HB.out | apply below_alloc | apply pw_below_drewN | apply below_drew1) | exact HB.out)))); have n1_ := Aside0.mk (below_step (by repeat (first | (with_reducible first | exact HB.out | apply below_alloc | apply pw_below_drewN | apply below_drew1) | exact HB.out)) hb); clear HB; have HO103 := n0_; have HB := n1_; clear n0_ n1_; clear hb ho32) | ((with_reducible refine gate_dst (N := 3) rfl ?_); refine Kd.R_lit Kd.string _ 9 ?hg (N := 3) ?hd (xs := ([(⟨#[97]⟩ : ByteArray)] : List ByteArray)) (inner := [.string (⟨#[97]⟩ : ByteArray)]) (ok := fun _ => True) (okp := fun _ => True) ?hr ?hp (fun _ hk => hk) trivial (Below.refl _ _) (Nat.le_refl _) (by simp) ?_; (case hd => rfl); (case hg => rfl); (case hr => first | (go_simp; done) | (go_simp; rfl)); (case hp => exact (Reps.one (show Kd.M Kd.string _ _ _ (⟨#[97]⟩ : ByteArray) [.string (⟨#[97]⟩ : ByteArray)] from rfl) (Reps.none _ _))); intro v105 w33 ho34 hb hg_ hnew_; clear hg_ hnew_; (first | rw [← Ny104.out] at ho34 | (simp only [Int.reduceToNat] at ho34; rw [← Ny104.out] at ho34)); have n0_ := Aside0.mk (Kd.R_elder' (by (with_reducible repeat (first | apply Kd.R_alloc | apply Kd.R_drewN | apply Kd.R_drew)); exact HO103.out) (Kd.R_base ho34) hb); have n1_ := Aside0.mk (Kd.R_lower (Kd.R_new' ho34 (Kd.R_lt (by (with_reducible repeat (first | apply Kd.R_alloc | apply Kd.R_drewN | apply Kd.R_drew)); exact HO103.out))) (below_size (by repeat (first | (with_reducible first | exact HB.out | apply below_alloc | apply pw_below_drewN | apply below_drew1) | exact HB.out)))); have n2_ := Aside0.mk (below_step (by repeat (first | (with_reducible first | exact HB.out | apply below_alloc | apply pw_below_drewN | apply below_drew1) | exact HB.out)) hb); clear HO103; clear HB; have HO103 := n0_; have HO106 := n1_; have HB := n2_; clear n0_ n1_ n2_; clear hb ho34) | ((with_reducible refine gate_dst (N := 4) rfl ?_); refine Kd.R_lit (Kd.int .i64) _ 55 ?hg (N := 4) ?hd (xs := ([(-1), 0] : List Int)) (inner := [.int .i64 (-1), .int .i64 0]) (ok := fun _ => True) (okp := fun _ => True) ?hr ?hp (fun _ hk => hk) trivial (Below.refl _ _) (Nat.le_refl _) (by simp) ?_; (case hd => rfl); (case hg => rfl); (case hr => first | (go_simp; done) | (go_simp; rfl)); (case hp => exact (Reps.one (show Kd.M (Kd.int .i64) _ _ _ (-1) [.int .i64 (-1)] from rfl) (Reps.one (show Kd.M (Kd.int .i64) _ _ _ 0 [.int .i64 0] from rfl) (Reps.none _ _)))); intro v108 w35 ho36 hb hg_ hnew_; clear hg_ hnew_; (first | rw [← Ny107.out] at ho36 | (simp only [Int.reduceToNat] at ho36; rw [← Ny107.out] at ho36)); have n0_ := Aside0.mk (Kd.R_below (by (with_reducible repeat (first | apply Kd.R_alloc | apply Kd.R_drewN | apply Kd.R_drew)); exact HO103.out) hb); have n1_ := Aside0.mk (Kd.R_below (by (with_reducible repeat (first | apply Kd.R_alloc | apply Kd.R_drewN | apply Kd.R_drew)); exact HO106.out) hb); have n2_ := Aside0.mk (Kd.R_lower ho36 (below_size (by repeat (first | (with_reducible first | exact HB.out | apply below_alloc | apply pw_below_drewN | apply below_drew1) | exact HB.out)))); have n3_ := Aside0.mk (below_step (by repeat (first | (with_reducible first | exact HB.out | apply below_alloc | apply pw_below_drewN | apply below_drew1) | exact HB.out)) hb); clear HO103; clear HO106; clear HB; have HO103 := n0_; have HO106 := n1_; have HO109 := n2_; have HB := n3_; clear n0_ n1_ n2_ n3_; clear hb ho36; obtain ⟨Ao37, co37, eo37⟩ := Kd.R_slice HO109.out; subst eo37) | ((with_reducible refine gate_dst (N := 6) rfl ?_); refine Kd.N_lit k35 _ 35 ?hg (N' := 6) ?hd (xs := ([(⟨0, y107⟩ : S35)] : List (S35))) (inner := [.int .i64 0, .slice Ao37 y107.length co37]) (ok := (fun k_ => some k_ ≠ (v102 : Value).ownBlock ∧ some k_ ≠ (v105 : Value).ownBlock)) (okp := (fun k_ => some k_ ≠ (v102 : Value).ownBlock ∧ some k_ ≠ (v105 : Value).ownBlock)) ?hr ?hp (fun _ hk => hk) ((show ∀ k_, w35.heap.size ≤ k_ → (fun k_ => some k_ ≠ (v102 : Value).ownBlock ∧ some k_ ≠ (v105 : Value).ownBlock) k_ from fun k_ hk => ⟨Kd.fresh' (Kd.R_lt (by (with_reducible repeat (first | apply Kd.R_alloc | apply Kd.R_drewN | apply Kd.R_drew)); exact HO103.out)) k_ hk, Kd.fresh' (Kd.R_lt (by (with_reducible repeat (first | apply Kd.R_alloc | apply Kd.R_drewN | apply Kd.R_drew)); exact HO106.out)) k_ hk⟩) _ (Nat.le_refl _)) (Below.refl _ _) (Nat.le_refl _) (by simp) ?_; (case hd => rfl); (case hg => rfl); (case hr => first | (go_simp; done) | (go_simp; rfl)); (case hp => exact (Reps.c2 (show Kd.FK k35 _ _ (⟨0, y107⟩ : S35) [.int .i64 0, .slice Ao37 y107.length co37] from (k35_mkF _ _ (⟨0, y107⟩ : S35) (Kd.R_reads' (Kd.R_mono (ok' := (fun k_ => some k_ ≠ (v102 : Value).ownBlock ∧ some k_ ≠ (v105 : Value).ownBlock)) (Kd.R_apart' (Kd.R_apart' (HO109.out) (Kd.R_typed HO103.out) (by decide)) (Kd.R_typed HO106.out) (by decide)) (fun k_ hk => ⟨hk.1.2, hk.2⟩))).2.1 (Kd.R_F (Kd.R_mono (ok' := (fun k_ => some k_ ≠ (v102 : Value).ownBlock ∧ some k_ ≠ (v105 : Value).ownBlock)) (Kd.R_apart' (Kd.R_apart' (HO109.out) (Kd.R_typed HO103.out) (by decide)) (Kd.R_typed HO106.out) (by decide)) (fun k_ hk => ⟨hk.1.2, hk.2⟩))))) (Reps.none _ _))); intro v111 w38 ho39 hb hg_ hnew_; clear hg_ hnew_; (first | rw [← Ny110.out] at ho39 | (simp only [Int.reduceToNat] at ho39; rw [← Ny110.out] at ho39)); have n0_ := Aside0.mk (Kd.R_below (by (with_reducible repeat (first | apply Kd.R_alloc | apply Kd.R_drewN | apply Kd.R_drew)); exact HO103.out) hb); have n1_ := Aside0.mk (Kd.R_below (by (with_reducible repeat (first | apply Kd.R_alloc | apply Kd.R_drewN | apply Kd.R_drew)); exact HO106.out) hb); have n2_ := Aside0.mk (Kd.N_lower ho39 (below_size (by repeat (first | (with_reducible first | exact HB.out | apply below_alloc | apply pw_below_drewN | apply below_drew1) | exact HB.out)))); have n3_ := Aside0.mk (below_step (by repeat (first | (with_reducible first | exact HB.out | apply below_alloc | apply pw_below_drewN | apply below_drew1) | exact HB.out)) hb); clear HO103; clear HO106; clear HB; clear HO109; have HO103 := n0_; have HO106 := n1_; have HO112 := n2_; have HB := n3_; clear n0_ n1_ n2_ n3_; clear hb ho39; obtain ⟨Ao40, co40, eo40⟩ := Kd.N_slice HO112.out; subst eo40; obtain ⟨Ao41, co41, eo41⟩ := Kd.R_slice HO106.out; subst eo41; obtain ⟨Ao42, co42, eo42⟩ := Kd.R_slice HO103.out; subst eo42) | ((with_reducible refine gate_dst (N := 1) rfl ?_); refine box_event ?hg (N := 1) ?hd (cs := #[.slice none 0 0, .slice none 0 0, .int .i64 0, .slice none 0 0]) (t := 25) ?hr ?_; (case hd => rfl); (case hg => rfl); (case hr => first | (go_simp; done) | (go_simp; rfl)); intro gb113 hg w43 hbox hb; have n0_ := Aside0.mk (Kd.R_below (by (with_reducible repeat (first | apply Kd.R_alloc | apply Kd.R_drewN | apply Kd.R_drew)); exact HO103.out) hb); have n1_ := Aside0.mk (Kd.R_below (by (with_reducible repeat (first | apply Kd.R_alloc | apply Kd.R_drewN | apply Kd.R_drew)); exact HO106.out) hb); have n2_ := Aside0.mk (Kd.N_below (Kd.N_elderB (by (with_reducible repeat (first | apply Kd.N_alloc | apply Kd.N_drewN | apply Kd.N_drew)); exact HO112.out) gb113 (Nat.le_of_eq hg.symm)) hb); have n3_ := Aside0.mk (below_step (by repeat (first | (with_reducible first | exact HB.out | apply below_alloc | apply pw_below_drewN | apply below_drew1) | exact HB.out)) hb); have n4_ := Aside0.mk (hbox); have n5_ := Aside0.mk ((by rw [hg]; exact (below_size (by repeat (first | (with_reducible first | exact HB.out | apply below_alloc | apply pw_below_drewN | apply below_drew1) | exact HB.out))) : w.heap.size ≤ gb113)); have n6_ := Aside0.mk ((by rw [hg]; exact (below_size (by repeat (first | (with_reducible first | exact HB.out | apply below_alloc | apply pw_below_drewN | apply below_drew1) | exact HB.out))) : w.heap.size ≤ gb113)); clear HO103; clear HO106; clear HO112; clear HB; have HO103 := n0_; have HO106 := n1_; have HO112 := n2_; have HB := n3_; have BK113 := n4_; have GW113 := n5_; have GE113 := n6_; clear n0_ n1_ n2_ n3_ n4_ n5_ n6_; clear hb hbox hg; have hcz44_0 : w43.cell? ⟨gb113, 0, none⟩ = some (.slice none 0 0) := (blk_cell BK113.out 0).trans rfl; have hcz44_1 : w43.cell? ⟨gb113, 1, none⟩ = some (.slice none 0 0) := (blk_cell BK113.out 1).trans rfl; have hcz44_2 : w43.cell? ⟨gb113, 2, none⟩ = some (.int .i64 0) := (blk_cell BK113.out 2).trans rfl; have hcz44_3 : w43.cell? ⟨gb113, 3, none⟩ = some (.slice none 0 0) := (blk_cell BK113.out 3).trans rfl; have hfz44_0 := blk_frozen BK113.out 0; have hfz44_1 := blk_frozen BK113.out 1; have hfz44_2 := blk_frozen BK113.out 2; have hfz44_3 := blk_frozen BK113.out 3) | ((with_reducible refine gate_callee (f := 19) rfl ?_); refine goesL_ (some 8) rfl rfl Tryd.func19 (by kernel_rfl) rfl #[] rfl (by (try simp only [List.map_toArray, List.map_cons, List.map_nil]); first | done | rfl | (simp only [List.length_drop, List.length_take]; rfl)) ?_; (with_reducible refine (wickerlaw02_Awake.calls k  true _ ?side1 A1.out).mono ?_); (case side1 => exact Laid.below HG.out (by repeat (first | (with_reducible first | exact HB.out | apply below_alloc | apply pw_below_drewN | apply below_drew1 | refine below_set ?_ GE113.out) | exact HB.out))); rintro e w45 ⟨rfl, hb⟩; refine ⟨_, rfl, ?_⟩; have n0_ := Aside0.mk (Kd.R_below (by (with_reducible repeat (first | apply Kd.R_alloc | apply Kd.R_drewN | apply Kd.R_drew)); exact (Kd.R_mono (Kd.R_far (p := ⟨gb113, 3, none⟩) (Kd.R_far (p := ⟨gb113, 2, none⟩) (Kd.R_far (p := ⟨gb113, 1, none⟩) (Kd.R_far (p := ⟨gb113, 0, none⟩) (Kd.R_types HO103.out BK113.out (by decide)) (fun _ hk => hk.2) (.slice Ao42 y101.length co42)) (fun _ hk => hk.2) (.slice Ao41 y104.length co41)) (fun _ hk => hk.2) (.int .i64 0)) (fun _ hk => hk.2) (.slice Ao40 y110.length co40)) (fun _ h_ => h_.1))) hb); have n1_ := Aside0.mk (Kd.R_below (by (with_reducible repeat (first | apply Kd.R_alloc | apply Kd.R_drewN | apply Kd.R_drew)); exact (Kd.R_mono (Kd.R_far (p := ⟨gb113, 3, none⟩) (Kd.R_far (p := ⟨gb113, 2, none⟩) (Kd.R_far (p := ⟨gb113, 1, none⟩) (Kd.R_far (p := ⟨gb113, 0, none⟩) (Kd.R_types HO106.out BK113.out (by decide)) (fun _ hk => hk.2) (.slice Ao42 y101.length co42)) (fun _ hk => hk.2) (.slice Ao41 y104.length co41)) (fun _ hk => hk.2) (.int .i64 0)) (fun _ hk => hk.2) (.slice Ao40 y110.length co40)) (fun _ h_ => h_.1))) hb); have n2_ := Aside0.mk (Kd.N_below (by (with_reducible repeat (first | apply Kd.N_alloc | apply Kd.N_drewN | apply Kd.N_drew)); exact (Kd.N_mono (Kd.N_far (p := ⟨gb113, 3, none⟩) (Kd.N_far (p := ⟨gb113, 2, none⟩) (Kd.N_far (p := ⟨gb113, 1, none⟩) (Kd.N_far (p := ⟨gb113, 0, none⟩) (Kd.N_mono HO112.out (fun k_ hk => (⟨hk, hk.2⟩ : _ ∧ k_ ≠ gb113))) (fun _ hk => hk.2) (.slice Ao42 y101.length co42)) (fun _ hk => hk.2) (.slice Ao41 y104.length co41)) (fun _ hk => hk.2) (.int .i64 0)) (fun _ hk => hk.2) (.slice Ao40 y110.length co40)) (fun _ h_ => h_.1))) hb); have n3_ := Aside0.mk (blk_below (g := gb113) (o := .cells #[.slice Ao42 y101.length co42, .slice Ao41 y104.length co41, .int .i64 0, .slice Ao40 y110.length co40] 25 (0, 0)) (by (with_reducible repeat (first | refine blk_drewN ?_ _ | refine blk_drew ?_ | refine blk_alloc ?_ _)); refine blk_put (cs := #[.slice Ao42 y101.length co42, .slice Ao41 y104.length co41, .int .i64 0, .slice none 0 0]) ?_ 3 _ rfl; (with_reducible repeat (first | refine blk_drewN ?_ _ | refine blk_drew ?_ | refine blk_alloc ?_ _)); refine blk_put (cs := #[.slice Ao42 y101.length co42, .slice Ao41 y104.length co41, .int .i64 0, .slice none 0 0]) ?_ 2 _ rfl; (with_reducible repeat (first | refine blk_drewN ?_ _ | refine blk_drew ?_ | refine blk_alloc ?_ _)); refine blk_put (cs := #[.slice Ao42 y101.length co42, .slice none 0 0, .int .i64 0, .slice none 0 0]) ?_ 1 _ rfl; (with_reducible repeat (first | refine blk_drewN ?_ _ | refine blk_drew ?_ | refine blk_alloc ?_ _)); refine blk_put (cs := #[.slice none 0 0, .slice none 0 0, .int .i64 0, .slice none 0 0]) ?_ 0 _ rfl; (with_reducible repeat (first | refine blk_drewN ?_ _ | refine blk_drew ?_ | refine blk_alloc ?_ _)); exact BK113.out) hb); have n4_ := Aside0.mk (below_step (by repeat (first | (with_reducible first | exact HB.out | apply below_alloc | apply pw_below_drewN | apply below_drew1 | refine below_set ?_ GE113.out) | exact HB.out)) hb); clear HO103; clear HO106; clear HO112; clear BK113; clear HB; have HO103 := n0_; have HO106 := n1_; have HO112 := n2_; have BK113 := n3_; have HB := n4_; clear n0_ n1_ n2_ n3_ n4_; (try clear hb); (try clear hb2); (try clear hk); (try clear hi); have hcz46_0 : w45.cell? ⟨gb113, 0, none⟩ = some (.slice Ao42 y101.length co42) := (blk_cell BK113.out 0).trans rfl; have hcz46_1 : w45.cell? ⟨gb113, 1, none⟩ = some (.slice Ao41 y104.length co41) := (blk_cell BK113.out 1).trans rfl; have hcz46_2 : w45.cell? ⟨gb113, 2, none⟩ = some (.int .i64 0) := (blk_cell BK113.out 2).trans rfl; have hcz46_3 : w45.cell? ⟨gb113, 3, none⟩ = some (.slice Ao40 y110.length co40) := (blk_cell BK113.out 3).trans rfl; have hfz46_0 := blk_frozen BK113.out 0; have hfz46_1 := blk_frozen BK113.out 1; have hfz46_2 := blk_frozen BK113.out 2; have hfz46_3 := blk_frozen BK113.out 3) | (go_at_call 15; (with_reducible refine (shape_Short.calls _ _ y101 _ _ y104 0 _ _ y110 true _ ?side1 ?side2 ?side3 ?side4 ?side5 ?side6 A3.out).mono ?_); (case side1 => repeat (first | exact (Kd.R_reads' HO103.out).2.2 | (with_reducible refine Kd.C_alloc ?_ _) | (with_reducible refine Kd.C_drewN ?_ _) | (with_reducible refine Kd.C_drew ?_))); (case side2 => exact (Kd.R_reads' HO103.out).2.1); (case side3 => repeat (first | exact (Kd.R_reads' HO106.out).2.2 | (with_reducible refine Kd.C_alloc ?_ _) | (with_reducible refine Kd.C_drewN ?_ _) | (with_reducible refine Kd.C_drew ?_))); (case side4 => exact (Kd.R_reads' HO106.out).2.1); (case side5 => repeat (first | exact (Kd.N_reads' HO112.out).2.2 | (with_reducible refine Kd.C_alloc ?_ _) | (with_reducible refine Kd.C_drewN ?_ _) | (with_reducible refine Kd.C_drew ?_))); (case side6 => exact (Kd.N_reads' HO112.out).2.1); rintro e w47 ⟨rfl, hb⟩; have n0_ := Aside0.mk (Kd.R_below (by (with_reducible repeat (first | apply Kd.R_alloc | apply Kd.R_drewN | apply Kd.R_drew)); exact HO103.out) hb); have n1_ := Aside0.mk (Kd.R_below (by (with_reducible repeat (first | apply Kd.R_alloc | apply Kd.R_drewN | apply Kd.R_drew)); exact HO106.out) hb); have n2_ := Aside0.mk (Kd.N_below (by (with_reducible repeat (first | apply Kd.N_alloc | apply Kd.N_drewN | apply Kd.N_drew)); exact HO112.out) hb); have n3_ := Aside0.mk (blk_below (g := gb113) (o := .cells #[.slice Ao42 y101.length co42, .slice Ao41 y104.length co41, .int .i64 0, .slice Ao40 y110.length co40] 25 (0, 0)) (by (with_reducible repeat (first | refine blk_drewN ?_ _ | refine blk_drew ?_ | refine blk_alloc ?_ _)); exact BK113.out) hb); have n4_ := Aside0.mk (below_step (by repeat (first | (with_reducible first | exact HB.out | apply below_alloc | apply pw_below_drewN | apply below_drew1 | refine below_set ?_ GE113.out) | exact HB.out)) hb); clear HO103; clear HO106; clear HO112; clear BK113; clear HB; have HO103 := n0_; have HO106 := n1_; have HO112 := n2_; have BK113 := n3_; have HB := n4_; clear n0_ n1_ n2_ n3_ n4_; (try clear hb); (try clear hb2); (try clear hk); (try clear hi); have hcz48_0 : w47.cell? ⟨gb113, 0, none⟩ = some (.slice Ao42 y101.length co42) := (blk_cell BK113.out 0).trans rfl; have hcz48_1 : w47.cell? ⟨gb113, 1, none⟩ = some (.slice Ao41 y104.length co41) := (blk_cell BK113.out 1).trans rfl; have hcz48_2 : w47.cell? ⟨gb113, 2, none⟩ = some (.int .i64 0) := (blk_cell BK113.out 2).trans rfl; have hcz48_3 : w47.cell? ⟨gb113, 3, none⟩ = some (.slice Ao40 y110.length co40) := (blk_cell BK113.out 3).trans rfl; have hfz48_0 := blk_frozen BK113.out 0; have hfz48_1 := blk_frozen BK113.out 1; have hfz48_2 := blk_frozen BK113.out 2; have hfz48_3 := blk_frozen BK113.out 3) | (go_at_call 18; (with_reducible refine (shape_Greibach.calls _ _ y101 _ _ y104 0 _ _ y110 true _ ?side1 ?side2 ?side3 ?side4 ?side5 ?side6 A5.out).mono ?_); (case side1 => repeat (first | exact (Kd.R_reads' HO103.out).2.2 | (with_reducible refine Kd.C_alloc ?_ _) | (with_reducible refine Kd.C_drewN ?_ _) | (with_reducible refine Kd.C_drew ?_))); (case side2 => exact (Kd.R_reads' HO103.out).2.1); (case side3 => repeat (first | exact (Kd.R_reads' HO106.out).2.2 | (with_reducible refine Kd.C_alloc ?_ _) | (with_reducible refine Kd.C_drewN ?_ _) | (with_reducible refine Kd.C_drew ?_))); (case side4 => exact (Kd.R_reads' HO106.out).2.1); (case side5 => repeat (first | exact (Kd.N_reads' HO112.out).2.2 | (with_reducible refine Kd.C_alloc ?_ _) | (with_reducible refine Kd.C_drewN ?_ _) | (with_reducible refine Kd.C_drew ?_))); (case side6 => exact (Kd.N_reads' HO112.out).2.1); rintro e w49 ⟨rfl, hb⟩; have n0_ := Aside0.mk (Kd.R_below (by (with_reducible repeat (first | apply Kd.R_alloc | apply Kd.R_drewN | apply Kd.R_drew)); exact HO103.out) hb); have n1_ := Aside0.mk (Kd.R_below (by (with_reducible repeat (first | apply Kd.R_alloc | apply Kd.R_drewN | apply Kd.R_drew)); exact HO106.out) hb); have n2_ := Aside0.mk (Kd.N_below (by (with_reducible repeat (first | apply Kd.N_alloc | apply Kd.N_drewN | apply Kd.N_drew)); exact HO112.out) hb); have n3_ := Aside0.mk (blk_below (g := gb113) (o := .cells #[.slice Ao42 y101.length co42, .slice Ao41 y104.length co41, .int .i64 0, .slice Ao40 y110.length co40] 25 (0, 0)) (by (with_reducible repeat (first | refine blk_drewN ?_ _ | refine blk_drew ?_ | refine blk_alloc ?_ _)); exact BK113.out) hb); have n4_ := Aside0.mk (below_step (by repeat (first | (with_reducible first | exact HB.out | apply below_alloc | apply pw_below_drewN | apply below_drew1 | refine below_set ?_ GE113.out) | exact HB.out)) hb); clear HO103; clear HO106; clear HO112; clear BK113; clear HB; have HO103 := n0_; have HO106 := n1_; have HO112 := n2_; have BK113 := n3_; have HB := n4_; clear n0_ n1_ n2_ n3_ n4_; (try clear hb); (try clear hb2); (try clear hk); (try clear hi); have hcz50_0 : w49.cell? ⟨gb113, 0, none⟩ = some (.slice Ao42 y101.length co42) := (blk_cell BK113.out 0).trans rfl; have hcz50_1 : w49.cell? ⟨gb113, 1, none⟩ = some (.slice Ao41 y104.length co41) := (blk_cell BK113.out 1).trans rfl; have hcz50_2 : w49.cell? ⟨gb113, 2, none⟩ = some (.int .i64 0) := (blk_cell BK113.out 2).trans rfl; have hcz50_3 : w49.cell? ⟨gb113, 3, none⟩ = some (.slice Ao40 y110.length co40) := (blk_cell BK113.out 3).trans rfl; have hfz50_0 := blk_frozen BK113.out 0; have hfz50_1 := blk_frozen BK113.out 1; have hfz50_2 := blk_frozen BK113.out 2; have hfz50_3 := blk_frozen BK113.out 3) | (go_at_call 16; (with_reducible refine (shape_Lifted.calls _ _ y101 _ _ y104 0 _ _ y110 false _ ?side1 ?side2 ?side3 ?side4 ?side5 ?side6 A7.out).mono ?_); (case side1 => repeat (first | exact (Kd.R_reads' HO103.out).2.2 | (with_reducible refine Kd.C_alloc ?_ _) | (with_reducible refine Kd.C_drewN ?_ _) | (with_reducible refine Kd.C_drew ?_))); (case side2 => exact (Kd.R_reads' HO103.out).2.1); (case side3 => repeat (first | exact (Kd.R_reads' HO106.out).2.2 | (with_reducible refine Kd.C_alloc ?_ _) | (with_reducible refine Kd.C_drewN ?_ _) | (with_reducible refine Kd.C_drew ?_))); (case side4 => exact (Kd.R_reads' HO106.out).2.1); (case side5 => repeat (first | exact (Kd.N_reads' HO112.out).2.2 | (with_reducible refine Kd.C_alloc ?_ _) | (with_reducible refine Kd.C_drewN ?_ _) | (with_reducible refine Kd.C_drew ?_))); (case side6 => exact (Kd.N_reads' HO112.out).2.1); rintro e w51 ⟨rfl, hb⟩; have n0_ := Aside0.mk (Kd.R_below (by (with_reducible repeat (first | apply Kd.R_alloc | apply Kd.R_drewN | apply Kd.R_drew)); exact HO103.out) hb); have n1_ := Aside0.mk (Kd.R_below (by (with_reducible repeat (first | apply Kd.R_alloc | apply Kd.R_drewN | apply Kd.R_drew)); exact HO106.out) hb); have n2_ := Aside0.mk (Kd.N_below (by (with_reducible repeat (first | apply Kd.N_alloc | apply Kd.N_drewN | apply Kd.N_drew)); exact HO112.out) hb); have n3_ := Aside0.mk (blk_below (g := gb113) (o := .cells #[.slice Ao42 y101.length co42, .slice Ao41 y104.length co41, .int .i64 0, .slice Ao40 y110.length co40] 25 (0, 0)) (by (with_reducible repeat (first | refine blk_drewN ?_ _ | refine blk_drew ?_ | refine blk_alloc ?_ _)); exact BK113.out) hb); have n4_ := Aside0.mk (below_step (by repeat (first | (with_reducible first | exact HB.out | apply below_alloc | apply pw_below_drewN | apply below_drew1 | refine below_set ?_ GE113.out) | exact HB.out)) hb); clear HO103; clear HO106; clear HO112; clear BK113; clear HB; have HO103 := n0_; have HO106 := n1_; have HO112 := n2_; have BK113 := n3_; have HB := n4_; clear n0_ n1_ n2_ n3_ n4_; (try clear hb); (try clear hb2); (try clear hk); (try clear hi); have hcz52_0 : w51.cell? ⟨gb113, 0, none⟩ = some (.slice Ao42 y101.length co42) := (blk_cell BK113.out 0).trans rfl; have hcz52_1 : w51.cell? ⟨gb113, 1, none⟩ = some (.slice Ao41 y104.length co41) := (blk_cell BK113.out 1).trans rfl; have hcz52_2 : w51.cell? ⟨gb113, 2, none⟩ = some (.int .i64 0) := (blk_cell BK113.out 2).trans rfl; have hcz52_3 : w51.cell? ⟨gb113, 3, none⟩ = some (.slice Ao40 y110.length co40) := (blk_cell BK113.out 3).trans rfl; have hfz52_0 := blk_frozen BK113.out 0; have hfz52_1 := blk_frozen BK113.out 1; have hfz52_2 := blk_frozen BK113.out 2; have hfz52_3 := blk_frozen BK113.out 3) | (go_at_call 17; (with_reducible refine (shape_Chomsky.calls _ _ y101 _ _ y104 0 _ _ y110 t118 _ ?side1 ?side2 ?side3 ?side4 ?side5 ?side6 A30.out).mono ?_); (case side1 => repeat (first | exact (Kd.R_reads' HO103.out).2.2 | (with_reducible refine Kd.C_alloc ?_ _) | (with_reducible refine Kd.C_drewN ?_ _) | (with_reducible refine Kd.C_drew ?_))); (case side2 => exact (Kd.R_reads' HO103.out).2.1); (case side3 => repeat (first | exact (Kd.R_reads' HO106.out).2.2 | (with_reducible refine Kd.C_alloc ?_ _) | (with_reducible refine Kd.C_drewN ?_ _) | (with_reducible refine Kd.C_drew ?_))); (case side4 => exact (Kd.R_reads' HO106.out).2.1); (case side5 => repeat (first | exact (Kd.N_reads' HO112.out).2.2 | (with_reducible refine Kd.C_alloc ?_ _) | (with_reducible refine Kd.C_drewN ?_ _) | (with_reducible refine Kd.C_drew ?_))); (case side6 => exact (Kd.N_reads' HO112.out).2.1); rintro e w53 ⟨rfl, hb⟩; have n0_ := Aside0.mk (Kd.R_below (by (with_reducible repeat (first | apply Kd.R_alloc | apply Kd.R_drewN | apply Kd.R_drew)); exact HO103.out) hb); have n1_ := Aside0.mk (Kd.R_below (by (with_reducible repeat (first | apply Kd.R_alloc | apply Kd.R_drewN | apply Kd.R_drew)); exact HO106.out) hb); have n2_ := Aside0.mk (Kd.N_below (by (with_reducible repeat (first | apply Kd.N_alloc | apply Kd.N_drewN | apply Kd.N_drew)); exact HO112.out) hb); have n3_ := Aside0.mk (blk_below (g := gb113) (o := .cells #[.slice Ao42 y101.length co42, .slice Ao41 y104.length co41, .int .i64 0, .slice Ao40 y110.length co40] 25 (0, 0)) (by (with_reducible repeat (first | refine blk_drewN ?_ _ | refine blk_drew ?_ | refine blk_alloc ?_ _)); exact BK113.out) hb); have n4_ := Aside0.mk (below_step (by repeat (first | (with_reducible first | exact HB.out | apply below_alloc | apply pw_below_drewN | apply below_drew1 | refine below_set ?_ GE113.out) | exact HB.out)) hb); clear HO103; clear HO106; clear HO112; clear BK113; clear HB; have HO103 := n0_; have HO106 := n1_; have HO112 := n2_; have BK113 := n3_; have HB := n4_; clear n0_ n1_ n2_ n3_ n4_; (try clear hb); (try clear hb2); (try clear hk); (try clear hi)))
     go_ret
     exact ⟨by first | rfl | (simp [errW_none, errW_some] <;> rfl) | (simp [*, errW_none, errW_some] <;> rfl), by repeat (first | (with_reducible first | exact HB.out | apply below_alloc | apply pw_below_drewN | apply below_drew1 | refine below_set ?_ GE113.out) | exact HB.out)⟩
   ·replace c6 := Bool.eq_false_iff.mpr c6
    subst c6
    have H1 : (some false) = some r := by rw [if_neg (show ¬ (false = true) by decide)] at H; exact H
    clear H
    have H := H1
    clear H1
    obtain rfl := Option.some.inj H
    go_enter Tryd.func10, Tryd.ntmps10
    go_wp2_with (first | ((with_reducible refine gate_dst (N := 2) rfl ?_); refine Kd.R_lit Kd.string _ 9 ?hg (N := 2) ?hd (xs := ([(⟨#[83]⟩ : ByteArray)] : List ByteArray)) (inner := [.string (⟨#[83]⟩ : ByteArray)]) (ok := fun _ => True) (okp := fun _ => True) ?hr ?hp (fun _ hk => hk) trivial (Below.refl _ _) (Nat.le_refl _) (by simp) ?_; (case hd => rfl); (case hg => rfl); (case hr => first | (go_simp; done) | (go_simp; rfl)); (case hp => exact (Reps.one (show Kd.M Kd.string _ _ _ (⟨#[83]⟩ : ByteArray) [.string (⟨#[83]⟩ : ByteArray)] from rfl) (Reps.none _ _))); intro v102 w54 ho55 hb hg_ hnew_; clear hg_ hnew_; (first | rw [← Ny101.out] at ho55 | (simp only [Int.reduceToNat] at ho55; rw [← Ny101.out] at ho55)); have n0_ := Aside0.mk (Kd.R_lower ho55 (below_size (by repeat (first | (with_reducible first | exact HB.out | apply below_alloc | apply pw_below_drewN | apply below_drew1) | exact HB.out)))); have n1_ := Aside0.mk (below_step (by repeat (first | (with_reducible first | exact HB.out | apply below_alloc | apply pw_below_drewN | apply below_drew1) | exact HB.out)) hb); clear HB; have HO103 := n0_; have HB := n1_; clear n0_ n1_; clear hb ho55) | ((with_reducible refine gate_dst (N := 3) rfl ?_); refine Kd.R_lit Kd.string _ 9 ?hg (N := 3) ?hd (xs := ([(⟨#[97]⟩ : ByteArray)] : List ByteArray)) (inner := [.string (⟨#[97]⟩ : ByteArray)]) (ok := fun _ => True) (okp := fun _ => True) ?hr ?hp (fun _ hk => hk) trivial (Below.refl _ _) (Nat.le_refl _) (by simp) ?_; (case hd => rfl); (case hg => rfl); (case hr => first | (go_simp; done) | (go_simp; rfl)); (case hp => exact (Reps.one (show Kd.M Kd.string _ _ _ (⟨#[97]⟩ : ByteArray) [.string (⟨#[97]⟩ : ByteArray)] from rfl) (Reps.none _ _))); intro v105 w56 ho57 hb hg_ hnew_; clear hg_ hnew_; (first | rw [← Ny104.out] at ho57 | (simp only [Int.reduceToNat] at ho57; rw [← Ny104.out] at ho57)); have n0_ := Aside0.mk (Kd.R_elder' (by (with_reducible repeat (first | apply Kd.R_alloc | apply Kd.R_drewN | apply Kd.R_drew)); exact HO103.out) (Kd.R_base ho57) hb); have n1_ := Aside0.mk (Kd.R_lower (Kd.R_new' ho57 (Kd.R_lt (by (with_reducible repeat (first | apply Kd.R_alloc | apply Kd.R_drewN | apply Kd.R_drew)); exact HO103.out))) (below_size (by repeat (first | (with_reducible first | exact HB.out | apply below_alloc | apply pw_below_drewN | apply below_drew1) | exact HB.out)))); have n2_ := Aside0.mk (below_step (by repeat (first | (with_reducible first | exact HB.out | apply below_alloc | apply pw_below_drewN | apply below_drew1) | exact HB.out)) hb); clear HO103; clear HB; have HO103 := n0_; have HO106 := n1_; have HB := n2_; clear n0_ n1_ n2_; clear hb ho57) | ((with_reducible refine gate_dst (N := 4) rfl ?_); refine Kd.R_lit (Kd.int .i64) _ 55 ?hg (N := 4) ?hd (xs := ([(-1), 0] : List Int)) (inner := [.int .i64 (-1), .int .i64 0]) (ok := fun _ => True) (okp := fun _ => True) ?hr ?hp (fun _ hk => hk) trivial (Below.refl _ _) (Nat.le_refl _) (by simp) ?_; (case hd => rfl); (case hg => rfl); (case hr => first | (go_simp; done) | (go_simp; rfl)); (case hp => exact (Reps.one (show Kd.M (Kd.int .i64) _ _ _ (-1) [.int .i64 (-1)] from rfl) (Reps.one (show Kd.M (Kd.int .i64) _ _ _ 0 [.int .i64 0] from rfl) (Reps.none _ _)))); intro v108 w58 ho59 hb hg_ hnew_; clear hg_ hnew_; (first | rw [← Ny107.out] at ho59 | (simp only [Int.reduceToNat] at ho59; rw [← Ny107.out] at ho59)); have n0_ := Aside0.mk (Kd.R_below (by (with_reducible repeat (first | apply Kd.R_alloc | apply Kd.R_drewN | apply Kd.R_drew)); exact HO103.out) hb); have n1_ := Aside0.mk (Kd.R_below (by (with_reducible repeat (first | apply Kd.R_alloc | apply Kd.R_drewN | apply Kd.R_drew)); exact HO106.out) hb); have n2_ := Aside0.mk (Kd.R_lower ho59 (below_size (by repeat (first | (with_reducible first | exact HB.out | apply below_alloc | apply pw_below_drewN | apply below_drew1) | exact HB.out)))); have n3_ := Aside0.mk (below_step (by repeat (first | (with_reducible first | exact HB.out | apply below_alloc | apply pw_below_drewN | apply below_drew1) | exact HB.out)) hb); clear HO103; clear HO106; clear HB; have HO103 := n0_; have HO106 := n1_; have HO109 := n2_; have HB := n3_; clear n0_ n1_ n2_ n3_; clear hb ho59; obtain ⟨Ao60, co60, eo60⟩ := Kd.R_slice HO109.out; subst eo60) | ((with_reducible refine gate_dst (N := 6) rfl ?_); refine Kd.N_lit k35 _ 35 ?hg (N' := 6) ?hd (xs := ([(⟨0, y107⟩ : S35)] : List (S35))) (inner := [.int .i64 0, .slice Ao60 y107.length co60]) (ok := (fun k_ => some k_ ≠ (v102 : Value).ownBlock ∧ some k_ ≠ (v105 : Value).ownBlock)) (okp := (fun k_ => some k_ ≠ (v102 : Value).ownBlock ∧ some k_ ≠ (v105 : Value).ownBlock)) ?hr ?hp (fun _ hk => hk) ((show ∀ k_, w58.heap.size ≤ k_ → (fun k_ => some k_ ≠ (v102 : Value).ownBlock ∧ some k_ ≠ (v105 : Value).ownBlock) k_ from fun k_ hk => ⟨Kd.fresh' (Kd.R_lt (by (with_reducible repeat (first | apply Kd.R_alloc | apply Kd.R_drewN | apply Kd.R_drew)); exact HO103.out)) k_ hk, Kd.fresh' (Kd.R_lt (by (with_reducible repeat (first | apply Kd.R_alloc | apply Kd.R_drewN | apply Kd.R_drew)); exact HO106.out)) k_ hk⟩) _ (Nat.le_refl _)) (Below.refl _ _) (Nat.le_refl _) (by simp) ?_; (case hd => rfl); (case hg => rfl); (case hr => first | (go_simp; done) | (go_simp; rfl)); (case hp => exact (Reps.c2 (show Kd.FK k35 _ _ (⟨0, y107⟩ : S35) [.int .i64 0, .slice Ao60 y107.length co60] from (k35_mkF _ _ (⟨0, y107⟩ : S35) (Kd.R_reads' (Kd.R_mono (ok' := (fun k_ => some k_ ≠ (v102 : Value).ownBlock ∧ some k_ ≠ (v105 : Value).ownBlock)) (Kd.R_apart' (Kd.R_apart' (HO109.out) (Kd.R_typed HO103.out) (by decide)) (Kd.R_typed HO106.out) (by decide)) (fun k_ hk => ⟨hk.1.2, hk.2⟩))).2.1 (Kd.R_F (Kd.R_mono (ok' := (fun k_ => some k_ ≠ (v102 : Value).ownBlock ∧ some k_ ≠ (v105 : Value).ownBlock)) (Kd.R_apart' (Kd.R_apart' (HO109.out) (Kd.R_typed HO103.out) (by decide)) (Kd.R_typed HO106.out) (by decide)) (fun k_ hk => ⟨hk.1.2, hk.2⟩))))) (Reps.none _ _))); intro v111 w61 ho62 hb hg_ hnew_; clear hg_ hnew_; (first | rw [← Ny110.out] at ho62 | (simp only [Int.reduceToNat] at ho62; rw [← Ny110.out] at ho62)); have n0_ := Aside0.mk (Kd.R_below (by (with_reducible repeat (first | apply Kd.R_alloc | apply Kd.R_drewN | apply Kd.R_drew)); exact HO103.out) hb); have n1_ := Aside0.mk (Kd.R_below (by (with_reducible repeat (first | apply Kd.R_alloc | apply Kd.R_drewN | apply Kd.R_drew)); exact HO106.out) hb); have n2_ := Aside0.mk (Kd.N_lower ho62 (below_size (by repeat (first | (with_reducible first | exact HB.out | apply below_alloc | apply pw_below_drewN | apply below_drew1) | exact HB.out)))); have n3_ := Aside0.mk (below_step (by repeat (first | (with_reducible first | exact HB.out | apply below_alloc | apply pw_below_drewN | apply below_drew1) | exact HB.out)) hb); clear HO103; clear HO106; clear HB; clear HO109; have HO103 := n0_; have HO106 := n1_; have HO112 := n2_; have HB := n3_; clear n0_ n1_ n2_ n3_; clear hb ho62; obtain ⟨Ao63, co63, eo63⟩ := Kd.N_slice HO112.out; subst eo63; obtain ⟨Ao64, co64, eo64⟩ := Kd.R_slice HO106.out; subst eo64; obtain ⟨Ao65, co65, eo65⟩ := Kd.R_slice HO103.out; subst eo65) | ((with_reducible refine gate_dst (N := 1) rfl ?_); refine box_event ?hg (N := 1) ?hd (cs := #[.slice none 0 0, .slice none 0 0, .int .i64 0, .slice none 0 0]) (t := 25) ?hr ?_; (case hd => rfl); (case hg => rfl); (case hr => first | (go_simp; done) | (go_simp; rfl)); intro gb113 hg w66 hbox hb; have n0_ := Aside0.mk (Kd.R_below (by (with_reducible repeat (first | apply Kd.R_alloc | apply Kd.R_drewN | apply Kd.R_drew)); exact HO103.out) hb); have n1_ := Aside0.mk (Kd.R_below (by (with_reducible repeat (first | apply Kd.R_alloc | apply Kd.R_drewN | apply Kd.R_drew)); exact HO106.out) hb); have n2_ := Aside0.mk (Kd.N_below (Kd.N_elderB (by (with_reducible repeat (first | apply Kd.N_alloc | apply Kd.N_drewN | apply Kd.N_drew)); exact HO112.out) gb113 (Nat.le_of_eq hg.symm)) hb); have n3_ := Aside0.mk (below_step (by repeat (first | (with_reducible first | exact HB.out | apply below_alloc | apply pw_below_drewN | apply below_drew1) | exact HB.out)) hb); have n4_ := Aside0.mk (hbox); have n5_ := Aside0.mk ((by rw [hg]; exact (below_size (by repeat (first | (with_reducible first | exact HB.out | apply below_alloc | apply pw_below_drewN | apply below_drew1) | exact HB.out))) : w.heap.size ≤ gb113)); have n6_ := Aside0.mk ((by rw [hg]; exact (below_size (by repeat (first | (with_reducible first | exact HB.out | apply below_alloc | apply pw_below_drewN | apply below_drew1) | exact HB.out))) : w.heap.size ≤ gb113)); clear HO103; clear HO106; clear HO112; clear HB; have HO103 := n0_; have HO106 := n1_; have HO112 := n2_; have HB := n3_; have BK113 := n4_; have GW113 := n5_; have GE113 := n6_; clear n0_ n1_ n2_ n3_ n4_ n5_ n6_; clear hb hbox hg; have hcz67_0 : w66.cell? ⟨gb113, 0, none⟩ = some (.slice none 0 0) := (blk_cell BK113.out 0).trans rfl; have hcz67_1 : w66.cell? ⟨gb113, 1, none⟩ = some (.slice none 0 0) := (blk_cell BK113.out 1).trans rfl; have hcz67_2 : w66.cell? ⟨gb113, 2, none⟩ = some (.int .i64 0) := (blk_cell BK113.out 2).trans rfl; have hcz67_3 : w66.cell? ⟨gb113, 3, none⟩ = some (.slice none 0 0) := (blk_cell BK113.out 3).trans rfl; have hfz67_0 := blk_frozen BK113.out 0; have hfz67_1 := blk_frozen BK113.out 1; have hfz67_2 := blk_frozen BK113.out 2; have hfz67_3 := blk_frozen BK113.out 3) | ((with_reducible refine gate_callee (f := 19) rfl ?_); refine goesL_ (some 8) rfl rfl Tryd.func19 (by kernel_rfl) rfl #[] rfl (by (try simp only [List.map_toArray, List.map_cons, List.map_nil]); first | done | rfl | (simp only [List.length_drop, List.length_take]; rfl)) ?_; (with_reducible refine (wickerlaw02_Awake.calls k  true _ ?side1 A1.out).mono ?_); (case side1 => exact Laid.below HG.out (by repeat (first | (with_reducible first | exact HB.out | apply below_alloc | apply pw_below_drewN | apply below_drew1 | refine below_set ?_ GE113.out) | exact HB.out))); rintro e w68 ⟨rfl, hb⟩; refine ⟨_, rfl, ?_⟩; have n0_ := Aside0.mk (Kd.R_below (by (with_reducible repeat (first | apply Kd.R_alloc | apply Kd.R_drewN | apply Kd.R_drew)); exact (Kd.R_mono (Kd.R_far (p := ⟨gb113, 3, none⟩) (Kd.R_far (p := ⟨gb113, 2, none⟩) (Kd.R_far (p := ⟨gb113, 1, none⟩) (Kd.R_far (p := ⟨gb113, 0, none⟩) (Kd.R_types HO103.out BK113.out (by decide)) (fun _ hk => hk.2) (.slice Ao65 y101.length co65)) (fun _ hk => hk.2) (.slice Ao64 y104.length co64)) (fun _ hk => hk.2) (.int .i64 0)) (fun _ hk => hk.2) (.slice Ao63 y110.length co63)) (fun _ h_ => h_.1))) hb); have n1_ := Aside0.mk (Kd.R_below (by (with_reducible repeat (first | apply Kd.R_alloc | apply Kd.R_drewN | apply Kd.R_drew)); exact (Kd.R_mono (Kd.R_far (p := ⟨gb113, 3, none⟩) (Kd.R_far (p := ⟨gb113, 2, none⟩) (Kd.R_far (p := ⟨gb113, 1, none⟩) (Kd.R_far (p := ⟨gb113, 0, none⟩) (Kd.R_types HO106.out BK113.out (by decide)) (fun _ hk => hk.2) (.slice Ao65 y101.length co65)) (fun _ hk => hk.2) (.slice Ao64 y104.length co64)) (fun _ hk => hk.2) (.int .i64 0)) (fun _ hk => hk.2) (.slice Ao63 y110.length co63)) (fun _ h_ => h_.1))) hb); have n2_ := Aside0.mk (Kd.N_below (by (with_reducible repeat (first | apply Kd.N_alloc | apply Kd.N_drewN | apply Kd.N_drew)); exact (Kd.N_mono (Kd.N_far (p := ⟨gb113, 3, none⟩) (Kd.N_far (p := ⟨gb113, 2, none⟩) (Kd.N_far (p := ⟨gb113, 1, none⟩) (Kd.N_far (p := ⟨gb113, 0, none⟩) (Kd.N_mono HO112.out (fun k_ hk => (⟨hk, hk.2⟩ : _ ∧ k_ ≠ gb113))) (fun _ hk => hk.2) (.slice Ao65 y101.length co65)) (fun _ hk => hk.2) (.slice Ao64 y104.length co64)) (fun _ hk => hk.2) (.int .i64 0)) (fun _ hk => hk.2) (.slice Ao63 y110.length co63)) (fun _ h_ => h_.1))) hb); have n3_ := Aside0.mk (blk_below (g := gb113) (o := .cells #[.slice Ao65 y101.length co65, .slice Ao64 y104.length co64, .int .i64 0, .slice Ao63 y110.length co63] 25 (0, 0)) (by (with_reducible repeat (first | refine blk_drewN ?_ _ | refine blk_drew ?_ | refine blk_alloc ?_ _)); refine blk_put (cs := #[.slice Ao65 y101.length co65, .slice Ao64 y104.length co64, .int .i64 0, .slice none 0 0]) ?_ 3 _ rfl; (with_reducible repeat (first | refine blk_drewN ?_ _ | refine blk_drew ?_ | refine blk_alloc ?_ _)); refine blk_put (cs := #[.slice Ao65 y101.length co65, .slice Ao64 y104.length co64, .int .i64 0, .slice none 0 0]) ?_ 2 _ rfl; (with_reducible repeat (first | refine blk_drewN ?_ _ | refine blk_drew ?_ | refine blk_alloc ?_ _)); refine blk_put (cs := #[.slice Ao65 y101.length co65, .slice none 0 0, .int .i64 0, .slice none 0 0]) ?_ 1 _ rfl; (with_reducible repeat (first | refine blk_drewN ?_ _ | refine blk_drew ?_ | refine blk_alloc ?_ _)); refine blk_put (cs := #[.slice none 0 0, .slice none 0 0, .int .i64 0, .slice none 0 0]) ?_ 0 _ rfl; (with_reducible repeat (first | refine blk_drewN ?_ _ | refine blk_drew ?_ | refine blk_alloc ?_ _)); exact BK113.out) hb); have n4_ := Aside0.mk (below_step (by repeat (first | (with_reducible first | exact HB.out | apply below_alloc | apply pw_below_drewN | apply below_drew1 | refine below_set ?_ GE113.out) | exact HB.out)) hb); clear HO103; clear HO106; clear HO112; clear BK113; clear HB; have HO103 := n0_; have HO106 := n1_; have HO112 := n2_; have BK113 := n3_; have HB := n4_; clear n0_ n1_ n2_ n3_ n4_; (try clear hb); (try clear hb2); (try clear hk); (try clear hi); have hcz69_0 : w68.cell? ⟨gb113, 0, none⟩ = some (.slice Ao65 y101.length co65) := (blk_cell BK113.out 0).trans rfl; have hcz69_1 : w68.cell? ⟨gb113, 1, none⟩ = some (.slice Ao64 y104.length co64) := (blk_cell BK113.out 1).trans rfl; have hcz69_2 : w68.cell? ⟨gb113, 2, none⟩ = some (.int .i64 0) := (blk_cell BK113.out 2).trans rfl; have hcz69_3 : w68.cell? ⟨gb113, 3, none⟩ = some (.slice Ao63 y110.length co63) := (blk_cell BK113.out 3).trans rfl; have hfz69_0 := blk_frozen BK113.out 0; have hfz69_1 := blk_frozen BK113.out 1; have hfz69_2 := blk_frozen BK113.out 2; have hfz69_3 := blk_frozen BK113.out 3) | (go_at_call 15; (with_reducible refine (shape_Short.calls _ _ y101 _ _ y104 0 _ _ y110 true _ ?side1 ?side2 ?side3 ?side4 ?side5 ?side6 A3.out).mono ?_); (case side1 => repeat (first | exact (Kd.R_reads' HO103.out).2.2 | (with_reducible refine Kd.C_alloc ?_ _) | (with_reducible refine Kd.C_drewN ?_ _) | (with_reducible refine Kd.C_drew ?_))); (case side2 => exact (Kd.R_reads' HO103.out).2.1); (case side3 => repeat (first | exact (Kd.R_reads' HO106.out).2.2 | (with_reducible refine Kd.C_alloc ?_ _) | (with_reducible refine Kd.C_drewN ?_ _) | (with_reducible refine Kd.C_drew ?_))); (case side4 => exact (Kd.R_reads' HO106.out).2.1); (case side5 => repeat (first | exact (Kd.N_reads' HO112.out).2.2 | (with_reducible refine Kd.C_alloc ?_ _) | (with_reducible refine Kd.C_drewN ?_ _) | (with_reducible refine Kd.C_drew ?_))); (case side6 => exact (Kd.N_reads' HO112.out).2.1); rintro e w70 ⟨rfl, hb⟩; have n0_ := Aside0.mk (Kd.R_below (by (with_reducible repeat (first | apply Kd.R_alloc | apply Kd.R_drewN | apply Kd.R_drew)); exact HO103.out) hb); have n1_ := Aside0.mk (Kd.R_below (by (with_reducible repeat (first | apply Kd.R_alloc | apply Kd.R_drewN | apply Kd.R_drew)); exact HO106.out) hb); have n2_ := Aside0.mk (Kd.N_below (by (with_reducible repeat (first | apply Kd.N_alloc | apply Kd.N_drewN | apply Kd.N_drew)); exact HO112.out) hb); have n3_ := Aside0.mk (blk_below (g := gb113) (o := .cells #[.slice Ao65 y101.length co65, .slice Ao64 y104.length co64, .int .i64 0, .slice Ao63 y110.length co63] 25 (0, 0)) (by (with_reducible repeat (first | refine blk_drewN ?_ _ | refine blk_drew ?_ | refine blk_alloc ?_ _)); exact BK113.out) hb); have n4_ := Aside0.mk (below_step (by repeat (first | (with_reducible first | exact HB.out | apply below_alloc | apply pw_below_drewN | apply below_drew1 | refine below_set ?_ GE113.out) | exact HB.out)) hb); clear HO103; clear HO106; clear HO112; clear BK113; clear HB; have HO103 := n0_; have HO106 := n1_; have HO112 := n2_; have BK113 := n3_; have HB := n4_; clear n0_ n1_ n2_ n3_ n4_; (try clear hb); (try clear hb2); (try clear hk); (try clear hi); have hcz71_0 : w70.cell? ⟨gb113, 0, none⟩ = some (.slice Ao65 y101.length co65) := (blk_cell BK113.out 0).trans rfl; have hcz71_1 : w70.cell? ⟨gb113, 1, none⟩ = some (.slice Ao64 y104.length co64) := (blk_cell BK113.out 1).trans rfl; have hcz71_2 : w70.cell? ⟨gb113, 2, none⟩ = some (.int .i64 0) := (blk_cell BK113.out 2).trans rfl; have hcz71_3 : w70.cell? ⟨gb113, 3, none⟩ = some (.slice Ao63 y110.length co63) := (blk_cell BK113.out 3).trans rfl; have hfz71_0 := blk_frozen BK113.out 0; have hfz71_1 := blk_frozen BK113.out 1; have hfz71_2 := blk_frozen BK113.out 2; have hfz71_3 := blk_frozen BK113.out 3) | (go_at_call 18; (with_reducible refine (shape_Greibach.calls _ _ y101 _ _ y104 0 _ _ y110 false _ ?side1 ?side2 ?side3 ?side4 ?side5 ?side6 A5.out).mono ?_); (case side1 => repeat (first | exact (Kd.R_reads' HO103.out).2.2 | (with_reducible refine Kd.C_alloc ?_ _) | (with_reducible refine Kd.C_drewN ?_ _) | (with_reducible refine Kd.C_drew ?_))); (case side2 => exact (Kd.R_reads' HO103.out).2.1); (case side3 => repeat (first | exact (Kd.R_reads' HO106.out).2.2 | (with_reducible refine Kd.C_alloc ?_ _) | (with_reducible refine Kd.C_drewN ?_ _) | (with_reducible refine Kd.C_drew ?_))); (case side4 => exact (Kd.R_reads' HO106.out).2.1); (case side5 => repeat (first | exact (Kd.N_reads' HO112.out).2.2 | (with_reducible refine Kd.C_alloc ?_ _) | (with_reducible refine Kd.C_drewN ?_ _) | (with_reducible refine Kd.C_drew ?_))); (case side6 => exact (Kd.N_reads' HO112.out).2.1); rintro e w72 ⟨rfl, hb⟩; have n0_ := Aside0.mk (Kd.R_below (by (with_reducible repeat (first | apply Kd.R_alloc | apply Kd.R_drewN | apply Kd.R_drew)); exact HO103.out) hb); have n1_ := Aside0.mk (Kd.R_below (by (with_reducible repeat (first | apply Kd.R_alloc | apply Kd.R_drewN | apply Kd.R_drew)); exact HO106.out) hb); have n2_ := Aside0.mk (Kd.N_below (by (with_reducible repeat (first | apply Kd.N_alloc | apply Kd.N_drewN | apply Kd.N_drew)); exact HO112.out) hb); have n3_ := Aside0.mk (blk_below (g := gb113) (o := .cells #[.slice Ao65 y101.length co65, .slice Ao64 y104.length co64, .int .i64 0, .slice Ao63 y110.length co63] 25 (0, 0)) (by (with_reducible repeat (first | refine blk_drewN ?_ _ | refine blk_drew ?_ | refine blk_alloc ?_ _)); exact BK113.out) hb); have n4_ := Aside0.mk (below_step (by repeat (first | (with_reducible first | exact HB.out | apply below_alloc | apply pw_below_drewN | apply below_drew1 | refine below_set ?_ GE113.out) | exact HB.out)) hb); clear HO103; clear HO106; clear HO112; clear BK113; clear HB; have HO103 := n0_; have HO106 := n1_; have HO112 := n2_; have BK113 := n3_; have HB := n4_; clear n0_ n1_ n2_ n3_ n4_; (try clear hb); (try clear hb2); (try clear hk); (try clear hi)))
    go_ret
    exact ⟨by first | rfl | (simp [errW_none, errW_some] <;> rfl) | (simp [*, errW_none, errW_some] <;> rfl), by repeat (first | (with_reducible first | exact HB.out | apply below_alloc | apply pw_below_drewN | apply below_drew1 | refine below_set ?_ GE113.out) | exact HB.out)⟩
  ·replace c4 := Bool.eq_false_iff.mpr c4
   subst c4
   have H1 : (some false) = some r := by rw [if_neg (show ¬ (false = true) by decide)] at H; exact H
   clear H
   have H := H1
   clear H1
   obtain rfl := Option.some.inj H
   go_enter Tryd.func10, Tryd.ntmps10
   go_wp2_with (first | ((with_reducible refine gate_dst (N := 2) rfl ?_); refine Kd.R_lit Kd.string _ 9 ?hg (N := 2) ?hd (xs := ([(⟨#[83]⟩ : ByteArray)] : List ByteArray)) (inner := [.string (⟨#[83]⟩ : ByteArray)]) (ok := fun _ => True) (okp := fun _ => True) ?hr ?hp (fun _ hk => hk) trivial (Below.refl _ _) (Nat.le_refl _) (by simp) ?_; (case hd => rfl); (case hg => rfl); (case hr => first | (go_simp; done) | (go_simp; rfl)); (case hp => exact (Reps.one (show Kd.M Kd.string _ _ _ (⟨#[83]⟩ : ByteArray) [.string (⟨#[83]⟩ : ByteArray)] from rfl) (Reps.none _ _))); intro v102 w73 ho74 hb hg_ hnew_; clear hg_ hnew_; (first | rw [← Ny101.out] at ho74 | (simp only [Int.reduceToNat] at ho74; rw [← Ny101.out] at ho74)); have n0_ := Aside0.mk (Kd.R_lower ho74 (below_size (by repeat (first | (with_reducible first | exact HB.out | apply below_alloc | apply pw_below_drewN | apply below_drew1) | exact HB.out)))); have n1_ := Aside0.mk (below_step (by repeat (first | (with_reducible first | exact HB.out | apply below_alloc | apply pw_below_drewN | apply below_drew1) | exact HB.out)) hb); clear HB; have HO103 := n0_; have HB := n1_; clear n0_ n1_; clear hb ho74) | ((with_reducible refine gate_dst (N := 3) rfl ?_); refine Kd.R_lit Kd.string _ 9 ?hg (N := 3) ?hd (xs := ([(⟨#[97]⟩ : ByteArray)] : List ByteArray)) (inner := [.string (⟨#[97]⟩ : ByteArray)]) (ok := fun _ => True) (okp := fun _ => True) ?hr ?hp (fun _ hk => hk) trivial (Below.refl _ _) (Nat.le_refl _) (by simp) ?_; (case hd => rfl); (case hg => rfl); (case hr => first | (go_simp; done) | (go_simp; rfl)); (case hp => exact (Reps.one (show Kd.M Kd.string _ _ _ (⟨#[97]⟩ : ByteArray) [.string (⟨#[97]⟩ : ByteArray)] from rfl) (Reps.none _ _))); intro v105 w75 ho76 hb hg_ hnew_; clear hg_ hnew_; (first | rw [← Ny104.out] at ho76 | (simp only [Int.reduceToNat] at ho76; rw [← Ny104.out] at ho76)); have n0_ := Aside0.mk (Kd.R_elder' (by (with_reducible repeat (first | apply Kd.R_alloc | apply Kd.R_drewN | apply Kd.R_drew)); exact HO103.out) (Kd.R_base ho76) hb); have n1_ := Aside0.mk (Kd.R_lower (Kd.R_new' ho76 (Kd.R_lt (by (with_reducible repeat (first | apply Kd.R_alloc | apply Kd.R_drewN | apply Kd.R_drew)); exact HO103.out))) (below_size (by repeat (first | (with_reducible first | exact HB.out | apply below_alloc | apply pw_below_drewN | apply below_drew1) | exact HB.out)))); have n2_ := Aside0.mk (below_step (by repeat (first | (with_reducible first | exact HB.out | apply below_alloc | apply pw_below_drewN | apply below_drew1) | exact HB.out)) hb); clear HO103; clear HB; have HO103 := n0_; have HO106 := n1_; have HB := n2_; clear n0_ n1_ n2_; clear hb ho76) | ((with_reducible refine gate_dst (N := 4) rfl ?_); refine Kd.R_lit (Kd.int .i64) _ 55 ?hg (N := 4) ?hd (xs := ([(-1), 0] : List Int)) (inner := [.int .i64 (-1), .int .i64 0]) (ok := fun _ => True) (okp := fun _ => True) ?hr ?hp (fun _ hk => hk) trivial (Below.refl _ _) (Nat.le_refl _) (by simp) ?_; (case hd => rfl); (case hg => rfl); (case hr => first | (go_simp; done) | (go_simp; rfl)); (case hp => exact (Reps.one (show Kd.M (Kd.int .i64) _ _ _ (-1) [.int .i64 (-1)] from rfl) (Reps.one (show Kd.M (Kd.int .i64) _ _ _ 0 [.int .i64 0] from rfl) (Reps.none _ _)))); intro v108 w77 ho78 hb hg_ hnew_; clear hg_ hnew_; (first | rw [← Ny107.out] at ho78 | (simp only [Int.reduceToNat] at ho78; rw [← Ny107.out] at ho78)); have n0_ := Aside0.mk (Kd.R_below (by (with_reducible repeat (first | apply Kd.R_alloc | apply Kd.R_drewN | apply Kd.R_drew)); exact HO103.out) hb); have n1_ := Aside0.mk (Kd.R_below (by (with_reducible repeat (first | apply Kd.R_alloc | apply Kd.R_drewN | apply Kd.R_drew)); exact HO106.out) hb); have n2_ := Aside0.mk (Kd.R_lower ho78 (below_size (by repeat (first | (with_reducible first | exact HB.out | apply below_alloc | apply pw_below_drewN | apply below_drew1) | exact HB.out)))); have n3_ := Aside0.mk (below_step (by repeat (first | (with_reducible first | exact HB.out | apply below_alloc | apply pw_below_drewN | apply below_drew1) | exact HB.out)) hb); clear HO103; clear HO106; clear HB; have HO103 := n0_; have HO106 := n1_; have HO109 := n2_; have HB := n3_; clear n0_ n1_ n2_ n3_; clear hb ho78; obtain ⟨Ao79, co79, eo79⟩ := Kd.R_slice HO109.out; subst eo79) | ((with_reducible refine gate_dst (N := 6) rfl ?_); refine Kd.N_lit k35 _ 35 ?hg (N' := 6) ?hd (xs := ([(⟨0, y107⟩ : S35)] : List (S35))) (inner := [.int .i64 0, .slice Ao79 y107.length co79]) (ok := (fun k_ => some k_ ≠ (v102 : Value).ownBlock ∧ some k_ ≠ (v105 : Value).ownBlock)) (okp := (fun k_ => some k_ ≠ (v102 : Value).ownBlock ∧ some k_ ≠ (v105 : Value).ownBlock)) ?hr ?hp (fun _ hk => hk) ((show ∀ k_, w77.heap.size ≤ k_ → (fun k_ => some k_ ≠ (v102 : Value).ownBlock ∧ some k_ ≠ (v105 : Value).ownBlock) k_ from fun k_ hk => ⟨Kd.fresh' (Kd.R_lt (by (with_reducible repeat (first | apply Kd.R_alloc | apply Kd.R_drewN | apply Kd.R_drew)); exact HO103.out)) k_ hk, Kd.fresh' (Kd.R_lt (by (with_reducible repeat (first | apply Kd.R_alloc | apply Kd.R_drewN | apply Kd.R_drew)); exact HO106.out)) k_ hk⟩) _ (Nat.le_refl _)) (Below.refl _ _) (Nat.le_refl _) (by simp) ?_; (case hd => rfl); (case hg => rfl); (case hr => first | (go_simp; done) | (go_simp; rfl)); (case hp => exact (Reps.c2 (show Kd.FK k35 _ _ (⟨0, y107⟩ : S35) [.int .i64 0, .slice Ao79 y107.length co79] from (k35_mkF _ _ (⟨0, y107⟩ : S35) (Kd.R_reads' (Kd.R_mono (ok' := (fun k_ => some k_ ≠ (v102 : Value).ownBlock ∧ some k_ ≠ (v105 : Value).ownBlock)) (Kd.R_apart' (Kd.R_apart' (HO109.out) (Kd.R_typed HO103.out) (by decide)) (Kd.R_typed HO106.out) (by decide)) (fun k_ hk => ⟨hk.1.2, hk.2⟩))).2.1 (Kd.R_F (Kd.R_mono (ok' := (fun k_ => some k_ ≠ (v102 : Value).ownBlock ∧ some k_ ≠ (v105 : Value).ownBlock)) (Kd.R_apart' (Kd.R_apart' (HO109.out) (Kd.R_typed HO103.out) (by decide)) (Kd.R_typed HO106.out) (by decide)) (fun k_ hk => ⟨hk.1.2, hk.2⟩))))) (Reps.none _ _))); intro v111 w80 ho81 hb hg_ hnew_; clear hg_ hnew_; (first | rw [← Ny110.out] at ho81 | (simp only [Int.reduceToNat] at ho81; rw [← Ny110.out] at ho81)); have n0_ := Aside0.mk (Kd.R_below (by (with_reducible repeat (first | apply Kd.R_alloc | apply Kd.R_drewN | apply Kd.R_drew)); exact HO103.out) hb); have n1_ := Aside0.mk (Kd.R_below (by (with_reducible repeat (first | apply Kd.R_alloc | apply Kd.R_drewN | apply Kd.R_drew)); exact HO106.out) hb); have n2_ := Aside0.mk (Kd.N_lower ho81 (below_size (by repeat (first | (with_reducible first | exact HB.out | apply below_alloc | apply pw_below_drewN | apply below_drew1) | exact HB.out)))); have n3_ := Aside0.mk (below_step (by repeat (first | (with_reducible first | exact HB.out | apply below_alloc | apply pw_below_drewN | apply below_drew1) | exact HB.out)) hb); clear HO103; clear HO106; clear HB; clear HO109; have HO103 := n0_; have HO106 := n1_; have HO112 := n2_; have HB := n3_; clear n0_ n1_ n2_ n3_; clear hb ho81; obtain ⟨Ao82, co82, eo82⟩ := Kd.N_slice HO112.out; subst eo82; obtain ⟨Ao83, co83, eo83⟩ := Kd.R_slice HO106.out; subst eo83; obtain ⟨Ao84, co84, eo84⟩ := Kd.R_slice HO103.out; subst eo84) | ((with_reducible refine gate_dst (N := 1) rfl ?_); refine box_event ?hg (N := 1) ?hd (cs := #[.slice none 0 0, .slice none 0 0, .int .i64 0, .slice none 0 0]) (t := 25) ?hr ?_; (case hd => rfl); (case hg => rfl); (case hr => first | (go_simp; done) | (go_simp; rfl)); intro gb113 hg w85 hbox hb; have n0_ := Aside0.mk (Kd.R_below (by (with_reducible repeat (first | apply Kd.R_alloc | apply Kd.R_drewN | apply Kd.R_drew)); exact HO103.out) hb); have n1_ := Aside0.mk (Kd.R_below (by (with_reducible repeat (first | apply Kd.R_alloc | apply Kd.R_drewN | apply Kd.R_drew)); exact HO106.out) hb); have n2_ := Aside0.mk (Kd.N_below (Kd.N_elderB (by (with_reducible repeat (first | apply Kd.N_alloc | apply Kd.N_drewN | apply Kd.N_drew)); exact HO112.out) gb113 (Nat.le_of_eq hg.symm)) hb); have n3_ := Aside0.mk (below_step (by repeat (first | (with_reducible first | exact HB.out | apply below_alloc | apply pw_below_drewN | apply below_drew1) | exact HB.out)) hb); have n4_ := Aside0.mk (hbox); have n5_ := Aside0.mk ((by rw [hg]; exact (below_size (by repeat (first | (with_reducible first | exact HB.out | apply below_alloc | apply pw_below_drewN | apply below_drew1) | exact HB.out))) : w.heap.size ≤ gb113)); have n6_ := Aside0.mk ((by rw [hg]; exact (below_size (by repeat (first | (with_reducible first | exact HB.out | apply below_alloc | apply pw_below_drewN | apply below_drew1) | exact HB.out))) : w.heap.size ≤ gb113)); clear HO103; clear HO106; clear HO112; clear HB; have HO103 := n0_; have HO106 := n1_; have HO112 := n2_; have HB := n3_; have BK113 := n4_; have GW113 := n5_; have GE113 := n6_; clear n0_ n1_ n2_ n3_ n4_ n5_ n6_; clear hb hbox hg; have hcz86_0 : w85.cell? ⟨gb113, 0, none⟩ = some (.slice none 0 0) := (blk_cell BK113.out 0).trans rfl; have hcz86_1 : w85.cell? ⟨gb113, 1, none⟩ = some (.slice none 0 0) := (blk_cell BK113.out 1).trans rfl; have hcz86_2 : w85.cell? ⟨gb113, 2, none⟩ = some (.int .i64 0) := (blk_cell BK113.out 2).trans rfl; have hcz86_3 : w85.cell? ⟨gb113, 3, none⟩ = some (.slice none 0 0) := (blk_cell BK113.out 3).trans rfl; have hfz86_0 := blk_frozen BK113.out 0; have hfz86_1 := blk_frozen BK113.out 1; have hfz86_2 := blk_frozen BK113.out 2; have hfz86_3 := blk_frozen BK113.out 3) | ((with_reducible refine gate_callee (f := 19) rfl ?_); refine goesL_ (some 8) rfl rfl Tryd.func19 (by kernel_rfl) rfl #[] rfl (by (try simp only [List.map_toArray, List.map_cons, List.map_nil]); first | done | rfl | (simp only [List.length_drop, List.length_take]; rfl)) ?_; (with_reducible refine (wickerlaw02_Awake.calls k  true _ ?side1 A1.out).mono ?_); (case side1 => exact Laid.below HG.out (by repeat (first | (with_reducible first | exact HB.out | apply below_alloc | apply pw_below_drewN | apply below_drew1 | refine below_set ?_ GE113.out) | exact HB.out))); rintro e w87 ⟨rfl, hb⟩; refine ⟨_, rfl, ?_⟩; have n0_ := Aside0.mk (Kd.R_below (by (with_reducible repeat (first | apply Kd.R_alloc | apply Kd.R_drewN | apply Kd.R_drew)); exact (Kd.R_mono (Kd.R_far (p := ⟨gb113, 3, none⟩) (Kd.R_far (p := ⟨gb113, 2, none⟩) (Kd.R_far (p := ⟨gb113, 1, none⟩) (Kd.R_far (p := ⟨gb113, 0, none⟩) (Kd.R_types HO103.out BK113.out (by decide)) (fun _ hk => hk.2) (.slice Ao84 y101.length co84)) (fun _ hk => hk.2) (.slice Ao83 y104.length co83)) (fun _ hk => hk.2) (.int .i64 0)) (fun _ hk => hk.2) (.slice Ao82 y110.length co82)) (fun _ h_ => h_.1))) hb); have n1_ := Aside0.mk (Kd.R_below (by (with_reducible repeat (first | apply Kd.R_alloc | apply Kd.R_drewN | apply Kd.R_drew)); exact (Kd.R_mono (Kd.R_far (p := ⟨gb113, 3, none⟩) (Kd.R_far (p := ⟨gb113, 2, none⟩) (Kd.R_far (p := ⟨gb113, 1, none⟩) (Kd.R_far (p := ⟨gb113, 0, none⟩) (Kd.R_types HO106.out BK113.out (by decide)) (fun _ hk => hk.2) (.slice Ao84 y101.length co84)) (fun _ hk => hk.2) (.slice Ao83 y104.length co83)) (fun _ hk => hk.2) (.int .i64 0)) (fun _ hk => hk.2) (.slice Ao82 y110.length co82)) (fun _ h_ => h_.1))) hb); have n2_ := Aside0.mk (Kd.N_below (by (with_reducible repeat (first | apply Kd.N_alloc | apply Kd.N_drewN | apply Kd.N_drew)); exact (Kd.N_mono (Kd.N_far (p := ⟨gb113, 3, none⟩) (Kd.N_far (p := ⟨gb113, 2, none⟩) (Kd.N_far (p := ⟨gb113, 1, none⟩) (Kd.N_far (p := ⟨gb113, 0, none⟩) (Kd.N_mono HO112.out (fun k_ hk => (⟨hk, hk.2⟩ : _ ∧ k_ ≠ gb113))) (fun _ hk => hk.2) (.slice Ao84 y101.length co84)) (fun _ hk => hk.2) (.slice Ao83 y104.length co83)) (fun _ hk => hk.2) (.int .i64 0)) (fun _ hk => hk.2) (.slice Ao82 y110.length co82)) (fun _ h_ => h_.1))) hb); have n3_ := Aside0.mk (blk_below (g := gb113) (o := .cells #[.slice Ao84 y101.length co84, .slice Ao83 y104.length co83, .int .i64 0, .slice Ao82 y110.length co82] 25 (0, 0)) (by (with_reducible repeat (first | refine blk_drewN ?_ _ | refine blk_drew ?_ | refine blk_alloc ?_ _)); refine blk_put (cs := #[.slice Ao84 y101.length co84, .slice Ao83 y104.length co83, .int .i64 0, .slice none 0 0]) ?_ 3 _ rfl; (with_reducible repeat (first | refine blk_drewN ?_ _ | refine blk_drew ?_ | refine blk_alloc ?_ _)); refine blk_put (cs := #[.slice Ao84 y101.length co84, .slice Ao83 y104.length co83, .int .i64 0, .slice none 0 0]) ?_ 2 _ rfl; (with_reducible repeat (first | refine blk_drewN ?_ _ | refine blk_drew ?_ | refine blk_alloc ?_ _)); refine blk_put (cs := #[.slice Ao84 y101.length co84, .slice none 0 0, .int .i64 0, .slice none 0 0]) ?_ 1 _ rfl; (with_reducible repeat (first | refine blk_drewN ?_ _ | refine blk_drew ?_ | refine blk_alloc ?_ _)); refine blk_put (cs := #[.slice none 0 0, .slice none 0 0, .int .i64 0, .slice none 0 0]) ?_ 0 _ rfl; (with_reducible repeat (first | refine blk_drewN ?_ _ | refine blk_drew ?_ | refine blk_alloc ?_ _)); exact BK113.out) hb); have n4_ := Aside0.mk (below_step (by repeat (first | (with_reducible first | exact HB.out | apply below_alloc | apply pw_below_drewN | apply below_drew1 | refine below_set ?_ GE113.out) | exact HB.out)) hb); clear HO103; clear HO106; clear HO112; clear BK113; clear HB; have HO103 := n0_; have HO106 := n1_; have HO112 := n2_; have BK113 := n3_; have HB := n4_; clear n0_ n1_ n2_ n3_ n4_; (try clear hb); (try clear hb2); (try clear hk); (try clear hi); have hcz88_0 : w87.cell? ⟨gb113, 0, none⟩ = some (.slice Ao84 y101.length co84) := (blk_cell BK113.out 0).trans rfl; have hcz88_1 : w87.cell? ⟨gb113, 1, none⟩ = some (.slice Ao83 y104.length co83) := (blk_cell BK113.out 1).trans rfl; have hcz88_2 : w87.cell? ⟨gb113, 2, none⟩ = some (.int .i64 0) := (blk_cell BK113.out 2).trans rfl; have hcz88_3 : w87.cell? ⟨gb113, 3, none⟩ = some (.slice Ao82 y110.length co82) := (blk_cell BK113.out 3).trans rfl; have hfz88_0 := blk_frozen BK113.out 0; have hfz88_1 := blk_frozen BK113.out 1; have hfz88_2 := blk_frozen BK113.out 2; have hfz88_3 := blk_frozen BK113.out 3) | (go_at_call 15; (with_reducible refine (shape_Short.calls _ _ y101 _ _ y104 0 _ _ y110 false _ ?side1 ?side2 ?side3 ?side4 ?side5 ?side6 A3.out).mono ?_); (case side1 => repeat (first | exact (Kd.R_reads' HO103.out).2.2 | (with_reducible refine Kd.C_alloc ?_ _) | (with_reducible refine Kd.C_drewN ?_ _) | (with_reducible refine Kd.C_drew ?_))); (case side2 => exact (Kd.R_reads' HO103.out).2.1); (case side3 => repeat (first | exact (Kd.R_reads' HO106.out).2.2 | (with_reducible refine Kd.C_alloc ?_ _) | (with_reducible refine Kd.C_drewN ?_ _) | (with_reducible refine Kd.C_drew ?_))); (case side4 => exact (Kd.R_reads' HO106.out).2.1); (case side5 => repeat (first | exact (Kd.N_reads' HO112.out).2.2 | (with_reducible refine Kd.C_alloc ?_ _) | (with_reducible refine Kd.C_drewN ?_ _) | (with_reducible refine Kd.C_drew ?_))); (case side6 => exact (Kd.N_reads' HO112.out).2.1); rintro e w89 ⟨rfl, hb⟩; have n0_ := Aside0.mk (Kd.R_below (by (with_reducible repeat (first | apply Kd.R_alloc | apply Kd.R_drewN | apply Kd.R_drew)); exact HO103.out) hb); have n1_ := Aside0.mk (Kd.R_below (by (with_reducible repeat (first | apply Kd.R_alloc | apply Kd.R_drewN | apply Kd.R_drew)); exact HO106.out) hb); have n2_ := Aside0.mk (Kd.N_below (by (with_reducible repeat (first | apply Kd.N_alloc | apply Kd.N_drewN | apply Kd.N_drew)); exact HO112.out) hb); have n3_ := Aside0.mk (blk_below (g := gb113) (o := .cells #[.slice Ao84 y101.length co84, .slice Ao83 y104.length co83, .int .i64 0, .slice Ao82 y110.length co82] 25 (0, 0)) (by (with_reducible repeat (first | refine blk_drewN ?_ _ | refine blk_drew ?_ | refine blk_alloc ?_ _)); exact BK113.out) hb); have n4_ := Aside0.mk (below_step (by repeat (first | (with_reducible first | exact HB.out | apply below_alloc | apply pw_below_drewN | apply below_drew1 | refine below_set ?_ GE113.out) | exact HB.out)) hb); clear HO103; clear HO106; clear HO112; clear BK113; clear HB; have HO103 := n0_; have HO106 := n1_; have HO112 := n2_; have BK113 := n3_; have HB := n4_; clear n0_ n1_ n2_ n3_ n4_; (try clear hb); (try clear hb2); (try clear hk); (try clear hi)))
   go_ret
   exact ⟨by first | rfl | (simp [errW_none, errW_some] <;> rfl) | (simp [*, errW_none, errW_some] <;> rfl), by repeat (first | (with_reducible first | exact HB.out | apply below_alloc | apply pw_below_drewN | apply below_drew1 | refine below_set ?_ GE113.out) | exact HB.out)⟩
 ·replace c2 := Bool.eq_false_iff.mpr c2
  subst c2
  have H1 : (some false) = some r := by rw [if_neg (show ¬ (false = true) by decide)] at H; exact H
  clear H
  have H := H1
  clear H1
  obtain rfl := Option.some.inj H
  go_enter Tryd.func10, Tryd.ntmps10
  go_wp2_with (first | ((with_reducible refine gate_dst (N := 2) rfl ?_); refine Kd.R_lit Kd.string _ 9 ?hg (N := 2) ?hd (xs := ([(⟨#[83]⟩ : ByteArray)] : List ByteArray)) (inner := [.string (⟨#[83]⟩ : ByteArray)]) (ok := fun _ => True) (okp := fun _ => True) ?hr ?hp (fun _ hk => hk) trivial (Below.refl _ _) (Nat.le_refl _) (by simp) ?_; (case hd => rfl); (case hg => rfl); (case hr => first | (go_simp; done) | (go_simp; rfl)); (case hp => exact (Reps.one (show Kd.M Kd.string _ _ _ (⟨#[83]⟩ : ByteArray) [.string (⟨#[83]⟩ : ByteArray)] from rfl) (Reps.none _ _))); intro v102 w90 ho91 hb hg_ hnew_; clear hg_ hnew_; (first | rw [← Ny101.out] at ho91 | (simp only [Int.reduceToNat] at ho91; rw [← Ny101.out] at ho91)); have n0_ := Aside0.mk (Kd.R_lower ho91 (below_size (by repeat (first | (with_reducible first | exact HB.out | apply below_alloc | apply pw_below_drewN | apply below_drew1) | exact HB.out)))); have n1_ := Aside0.mk (below_step (by repeat (first | (with_reducible first | exact HB.out | apply below_alloc | apply pw_below_drewN | apply below_drew1) | exact HB.out)) hb); clear HB; have HO103 := n0_; have HB := n1_; clear n0_ n1_; clear hb ho91) | ((with_reducible refine gate_dst (N := 3) rfl ?_); refine Kd.R_lit Kd.string _ 9 ?hg (N := 3) ?hd (xs := ([(⟨#[97]⟩ : ByteArray)] : List ByteArray)) (inner := [.string (⟨#[97]⟩ : ByteArray)]) (ok := fun _ => True) (okp := fun _ => True) ?hr ?hp (fun _ hk => hk) trivial (Below.refl _ _) (Nat.le_refl _) (by simp) ?_; (case hd => rfl); (case hg => rfl); (case hr => first | (go_simp; done) | (go_simp; rfl)); (case hp => exact (Reps.one (show Kd.M Kd.string _ _ _ (⟨#[97]⟩ : ByteArray) [.string (⟨#[97]⟩ : ByteArray)] from rfl) (Reps.none _ _))); intro v105 w92 ho93 hb hg_ hnew_; clear hg_ hnew_; (first | rw [← Ny104.out] at ho93 | (simp only [Int.reduceToNat] at ho93; rw [← Ny104.out] at ho93)); have n0_ := Aside0.mk (Kd.R_elder' (by (with_reducible repeat (first | apply Kd.R_alloc | apply Kd.R_drewN | apply Kd.R_drew)); exact HO103.out) (Kd.R_base ho93) hb); have n1_ := Aside0.mk (Kd.R_lower (Kd.R_new' ho93 (Kd.R_lt (by (with_reducible repeat (first | apply Kd.R_alloc | apply Kd.R_drewN | apply Kd.R_drew)); exact HO103.out))) (below_size (by repeat (first | (with_reducible first | exact HB.out | apply below_alloc | apply pw_below_drewN | apply below_drew1) | exact HB.out)))); have n2_ := Aside0.mk (below_step (by repeat (first | (with_reducible first | exact HB.out | apply below_alloc | apply pw_below_drewN | apply below_drew1) | exact HB.out)) hb); clear HO103; clear HB; have HO103 := n0_; have HO106 := n1_; have HB := n2_; clear n0_ n1_ n2_; clear hb ho93) | ((with_reducible refine gate_dst (N := 4) rfl ?_); refine Kd.R_lit (Kd.int .i64) _ 55 ?hg (N := 4) ?hd (xs := ([(-1), 0] : List Int)) (inner := [.int .i64 (-1), .int .i64 0]) (ok := fun _ => True) (okp := fun _ => True) ?hr ?hp (fun _ hk => hk) trivial (Below.refl _ _) (Nat.le_refl _) (by simp) ?_; (case hd => rfl); (case hg => rfl); (case hr => first | (go_simp; done) | (go_simp; rfl)); (case hp => exact (Reps.one (show Kd.M (Kd.int .i64) _ _ _ (-1) [.int .i64 (-1)] from rfl) (Reps.one (show Kd.M (Kd.int .i64) _ _ _ 0 [.int .i64 0] from rfl) (Reps.none _ _)))); intro v108 w94 ho95 hb hg_ hnew_; clear hg_ hnew_; (first | rw [← Ny107.out] at ho95 | (simp only [Int.reduceToNat] at ho95; rw [← Ny107.out] at ho95)); have n0_ := Aside0.mk (Kd.R_below (by (with_reducible repeat (first | apply Kd.R_alloc | apply Kd.R_drewN | apply Kd.R_drew)); exact HO103.out) hb); have n1_ := Aside0.mk (Kd.R_below (by (with_reducible repeat (first | apply Kd.R_alloc | apply Kd.R_drewN | apply Kd.R_drew)); exact HO106.out) hb); have n2_ := Aside0.mk (Kd.R_lower ho95 (below_size (by repeat (first | (with_reducible first | exact HB.out | apply below_alloc | apply pw_below_drewN | apply below_drew1) | exact HB.out)))); have n3_ := Aside0.mk (below_step (by repeat (first | (with_reducible first | exact HB.out | apply below_alloc | apply pw_below_drewN | apply below_drew1) | exact HB.out)) hb); clear HO103; clear HO106; clear HB; have HO103 := n0_; have HO106 := n1_; have HO109 := n2_; have HB := n3_; clear n0_ n1_ n2_ n3_; clear hb ho95; obtain ⟨Ao96, co96, eo96⟩ := Kd.R_slice HO109.out; subst eo96) | ((with_reducible refine gate_dst (N := 6) rfl ?_); refine Kd.N_lit k35 _ 35 ?hg (N' := 6) ?hd (xs := ([(⟨0, y107⟩ : S35)] : List (S35))) (inner := [.int .i64 0, .slice Ao96 y107.length co96]) (ok := (fun k_ => some k_ ≠ (v102 : Value).ownBlock ∧ some k_ ≠ (v105 : Value).ownBlock)) (okp := (fun k_ => some k_ ≠ (v102 : Value).ownBlock ∧ some k_ ≠ (v105 : Value).ownBlock)) ?hr ?hp (fun _ hk => hk) ((show ∀ k_, w94.heap.size ≤ k_ → (fun k_ => some k_ ≠ (v102 : Value).ownBlock ∧ some k_ ≠ (v105 : Value).ownBlock) k_ from fun k_ hk => ⟨Kd.fresh' (Kd.R_lt (by (with_reducible repeat (first | apply Kd.R_alloc | apply Kd.R_drewN | apply Kd.R_drew)); exact HO103.out)) k_ hk, Kd.fresh' (Kd.R_lt (by (with_reducible repeat (first | apply Kd.R_alloc | apply Kd.R_drewN | apply Kd.R_drew)); exact HO106.out)) k_ hk⟩) _ (Nat.le_refl _)) (Below.refl _ _) (Nat.le_refl _) (by simp) ?_; (case hd => rfl); (case hg => rfl); (case hr => first | (go_simp; done) | (go_simp; rfl)); (case hp => exact (Reps.c2 (show Kd.FK k35 _ _ (⟨0, y107⟩ : S35) [.int .i64 0, .slice Ao96 y107.length co96] from (k35_mkF _ _ (⟨0, y107⟩ : S35) (Kd.R_reads' (Kd.R_mono (ok' := (fun k_ => some k_ ≠ (v102 : Value).ownBlock ∧ some k_ ≠ (v105 : Value).ownBlock)) (Kd.R_apart' (Kd.R_apart' (HO109.out) (Kd.R_typed HO103.out) (by decide)) (Kd.R_typed HO106.out) (by decide)) (fun k_ hk => ⟨hk.1.2, hk.2⟩))).2.1 (Kd.R_F (Kd.R_mono (ok' := (fun k_ => some k_ ≠ (v102 : Value).ownBlock ∧ some k_ ≠ (v105 : Value).ownBlock)) (Kd.R_apart' (Kd.R_apart' (HO109.out) (Kd.R_typed HO103.out) (by decide)) (Kd.R_typed HO106.out) (by decide)) (fun k_ hk => ⟨hk.1.2, hk.2⟩))))) (Reps.none _ _))); intro v111 w97 ho98 hb hg_ hnew_; clear hg_ hnew_; (first | rw [← Ny110.out] at ho98 | (simp only [Int.reduceToNat] at ho98; rw [← Ny110.out] at ho98)); have n0_ := Aside0.mk (Kd.R_below (by (with_reducible repeat (first | apply Kd.R_alloc | apply Kd.R_drewN | apply Kd.R_drew)); exact HO103.out) hb); have n1_ := Aside0.mk (Kd.R_below (by (with_reducible repeat (first | apply Kd.R_alloc | apply Kd.R_drewN | apply Kd.R_drew)); exact HO106.out) hb); have n2_ := Aside0.mk (Kd.N_lower ho98 (below_size (by repeat (first | (with_reducible first | exact HB.out | apply below_alloc | apply pw_below_drewN | apply below_drew1) | exact HB.out)))); have n3_ := Aside0.mk (below_step (by repeat (first | (with_reducible first | exact HB.out | apply below_alloc | apply pw_below_drewN | apply below_drew1) | exact HB.out)) hb); clear HO103; clear HO106; clear HB; clear HO109; have HO103 := n0_; have HO106 := n1_; have HO112 := n2_; have HB := n3_; clear n0_ n1_ n2_ n3_; clear hb ho98; obtain ⟨Ao99, co99, eo99⟩ := Kd.N_slice HO112.out; subst eo99; obtain ⟨Ao100, co100, eo100⟩ := Kd.R_slice HO106.out; subst eo100; obtain ⟨Ao101, co101, eo101⟩ := Kd.R_slice HO103.out; subst eo101) | ((with_reducible refine gate_dst (N := 1) rfl ?_); refine box_event ?hg (N := 1) ?hd (cs := #[.slice none 0 0, .slice none 0 0, .int .i64 0, .slice none 0 0]) (t := 25) ?hr ?_; (case hd => rfl); (case hg => rfl); (case hr => first | (go_simp; done) | (go_simp; rfl)); intro gb113 hg w102 hbox hb; have n0_ := Aside0.mk (Kd.R_below (by (with_reducible repeat (first | apply Kd.R_alloc | apply Kd.R_drewN | apply Kd.R_drew)); exact HO103.out) hb); have n1_ := Aside0.mk (Kd.R_below (by (with_reducible repeat (first | apply Kd.R_alloc | apply Kd.R_drewN | apply Kd.R_drew)); exact HO106.out) hb); have n2_ := Aside0.mk (Kd.N_below (Kd.N_elderB (by (with_reducible repeat (first | apply Kd.N_alloc | apply Kd.N_drewN | apply Kd.N_drew)); exact HO112.out) gb113 (Nat.le_of_eq hg.symm)) hb); have n3_ := Aside0.mk (below_step (by repeat (first | (with_reducible first | exact HB.out | apply below_alloc | apply pw_below_drewN | apply below_drew1) | exact HB.out)) hb); have n4_ := Aside0.mk (hbox); have n5_ := Aside0.mk ((by rw [hg]; exact (below_size (by repeat (first | (with_reducible first | exact HB.out | apply below_alloc | apply pw_below_drewN | apply below_drew1) | exact HB.out))) : w.heap.size ≤ gb113)); have n6_ := Aside0.mk ((by rw [hg]; exact (below_size (by repeat (first | (with_reducible first | exact HB.out | apply below_alloc | apply pw_below_drewN | apply below_drew1) | exact HB.out))) : w.heap.size ≤ gb113)); clear HO103; clear HO106; clear HO112; clear HB; have HO103 := n0_; have HO106 := n1_; have HO112 := n2_; have HB := n3_; have BK113 := n4_; have GW113 := n5_; have GE113 := n6_; clear n0_ n1_ n2_ n3_ n4_ n5_ n6_; clear hb hbox hg; have hcz103_0 : w102.cell? ⟨gb113, 0, none⟩ = some (.slice none 0 0) := (blk_cell BK113.out 0).trans rfl; have hcz103_1 : w102.cell? ⟨gb113, 1, none⟩ = some (.slice none 0 0) := (blk_cell BK113.out 1).trans rfl; have hcz103_2 : w102.cell? ⟨gb113, 2, none⟩ = some (.int .i64 0) := (blk_cell BK113.out 2).trans rfl; have hcz103_3 : w102.cell? ⟨gb113, 3, none⟩ = some (.slice none 0 0) := (blk_cell BK113.out 3).trans rfl; have hfz103_0 := blk_frozen BK113.out 0; have hfz103_1 := blk_frozen BK113.out 1; have hfz103_2 := blk_frozen BK113.out 2; have hfz103_3 := blk_frozen BK113.out 3) | ((with_reducible refine gate_callee (f := 19) rfl ?_); refine goesL_ (some 8) rfl rfl Tryd.func19 (by kernel_rfl) rfl #[] rfl (by (try simp only [List.map_toArray, List.map_cons, List.map_nil]); first | done | rfl | (simp only [List.length_drop, List.length_take]; rfl)) ?_; (with_reducible refine (wickerlaw02_Awake.calls k  false _ ?side1 A1.out).mono ?_); (case side1 => exact Laid.below HG.out (by repeat (first | (with_reducible first | exact HB.out | apply below_alloc | apply pw_below_drewN | apply below_drew1 | refine below_set ?_ GE113.out) | exact HB.out))); rintro e w104 ⟨rfl, hb⟩; refine ⟨_, rfl, ?_⟩; have n0_ := Aside0.mk (Kd.R_below (by (with_reducible repeat (first | apply Kd.R_alloc | apply Kd.R_drewN | apply Kd.R_drew)); exact (Kd.R_mono (Kd.R_far (p := ⟨gb113, 3, none⟩) (Kd.R_far (p := ⟨gb113, 2, none⟩) (Kd.R_far (p := ⟨gb113, 1, none⟩) (Kd.R_far (p := ⟨gb113, 0, none⟩) (Kd.R_types HO103.out BK113.out (by decide)) (fun _ hk => hk.2) (.slice Ao101 y101.length co101)) (fun _ hk => hk.2) (.slice Ao100 y104.length co100)) (fun _ hk => hk.2) (.int .i64 0)) (fun _ hk => hk.2) (.slice Ao99 y110.length co99)) (fun _ h_ => h_.1))) hb); have n1_ := Aside0.mk (Kd.R_below (by (with_reducible repeat (first | apply Kd.R_alloc | apply Kd.R_drewN | apply Kd.R_drew)); exact (Kd.R_mono (Kd.R_far (p := ⟨gb113, 3, none⟩) (Kd.R_far (p := ⟨gb113, 2, none⟩) (Kd.R_far (p := ⟨gb113, 1, none⟩) (Kd.R_far (p := ⟨gb113, 0, none⟩) (Kd.R_types HO106.out BK113.out (by decide)) (fun _ hk => hk.2) (.slice Ao101 y101.length co101)) (fun _ hk => hk.2) (.slice Ao100 y104.length co100)) (fun _ hk => hk.2) (.int .i64 0)) (fun _ hk => hk.2) (.slice Ao99 y110.length co99)) (fun _ h_ => h_.1))) hb); have n2_ := Aside0.mk (Kd.N_below (by (with_reducible repeat (first | apply Kd.N_alloc | apply Kd.N_drewN | apply Kd.N_drew)); exact (Kd.N_mono (Kd.N_far (p := ⟨gb113, 3, none⟩) (Kd.N_far (p := ⟨gb113, 2, none⟩) (Kd.N_far (p := ⟨gb113, 1, none⟩) (Kd.N_far (p := ⟨gb113, 0, none⟩) (Kd.N_mono HO112.out (fun k_ hk => (⟨hk, hk.2⟩ : _ ∧ k_ ≠ gb113))) (fun _ hk => hk.2) (.slice Ao101 y101.length co101)) (fun _ hk => hk.2) (.slice Ao100 y104.length co100)) (fun _ hk => hk.2) (.int .i64 0)) (fun _ hk => hk.2) (.slice Ao99 y110.length co99)) (fun _ h_ => h_.1))) hb); have n3_ := Aside0.mk (blk_below (g := gb113) (o := .cells #[.slice Ao101 y101.length co101, .slice Ao100 y104.length co100, .int .i64 0, .slice Ao99 y110.length co99] 25 (0, 0)) (by (with_reducible repeat (first | refine blk_drewN ?_ _ | refine blk_drew ?_ | refine blk_alloc ?_ _)); refine blk_put (cs := #[.slice Ao101 y101.length co101, .slice Ao100 y104.length co100, .int .i64 0, .slice none 0 0]) ?_ 3 _ rfl; (with_reducible repeat (first | refine blk_drewN ?_ _ | refine blk_drew ?_ | refine blk_alloc ?_ _)); refine blk_put (cs := #[.slice Ao101 y101.length co101, .slice Ao100 y104.length co100, .int .i64 0, .slice none 0 0]) ?_ 2 _ rfl; (with_reducible repeat (first | refine blk_drewN ?_ _ | refine blk_drew ?_ | refine blk_alloc ?_ _)); refine blk_put (cs := #[.slice Ao101 y101.length co101, .slice none 0 0, .int .i64 0, .slice none 0 0]) ?_ 1 _ rfl; (with_reducible repeat (first | refine blk_drewN ?_ _ | refine blk_drew ?_ | refine blk_alloc ?_ _)); refine blk_put (cs := #[.slice none 0 0, .slice none 0 0, .int .i64 0, .slice none 0 0]) ?_ 0 _ rfl; (with_reducible repeat (first | refine blk_drewN ?_ _ | refine blk_drew ?_ | refine blk_alloc ?_ _)); exact BK113.out) hb); have n4_ := Aside0.mk (below_step (by repeat (first | (with_reducible first | exact HB.out | apply below_alloc | apply pw_below_drewN | apply below_drew1 | refine below_set ?_ GE113.out) | exact HB.out)) hb); clear HO103; clear HO106; clear HO112; clear BK113; clear HB; have HO103 := n0_; have HO106 := n1_; have HO112 := n2_; have BK113 := n3_; have HB := n4_; clear n0_ n1_ n2_ n3_ n4_; (try clear hb); (try clear hb2); (try clear hk); (try clear hi)))
  go_ret
  exact ⟨by first | rfl | (simp [errW_none, errW_some] <;> rfl) | (simp [*, errW_none, errW_some] <;> rfl), by repeat (first | (with_reducible first | exact HB.out | apply below_alloc | apply pw_below_drewN | apply below_drew1 | refine below_set ?_ GE113.out) | exact HB.out)⟩
end Go.Proofs.YtgdcnmpcfoomiaaDoor.G
end
section
set_option linter.unusedVariables false
set_option linter.unusedSimpArgs false
namespace Go.Proofs.YtgdcnmpcfoomiaaDoor.RegT
open Go Go.RowKit
def fv (f : Tmp → Value) : Option Tmp → Value
  | some d => f d
  | none => undef
def fillIn (f : Tmp → Value) : List Oper → Act → Act
  | [], a => a
  | o :: l, a => fillIn f l (a.put o.dst (fv f o.dst))
theorem put_tmps_size (a : Act) (d : Option Tmp) (v : Value) : (a.put d v).tmps.size = a.tmps.size := by cases d <;> simp [Act.put]
theorem put_defers (a : Act) (d : Option Tmp) (v : Value) : (a.put d v).defers = a.defers := by cases d <;> rfl
theorem put_at (a : Act) (d : Option Tmp) (v : Value) (t : Tmp) (h : d ≠ some t) : (a.put d v).tmps[t]? = a.tmps[t]? := by
  cases d with
  | none => rfl
  | some d => simp only [Act.put]; rw [Array.getElem?_setIfInBounds_ne]; intro e; exact h (by rw [e])
theorem put_same (a : Act) (t : Tmp) (v : Value) (h : t < a.tmps.size) : (a.put (some t) v).tmps[t]? = some v := by
  simp only [Act.put]; rw [Array.getElem?_setIfInBounds_self_of_lt h]
theorem fillIn_size (f : Tmp → Value) : ∀ (l : List Oper) (a : Act), (fillIn f l a).tmps.size = a.tmps.size
  | [], a => rfl
  | o :: l, a => by rw [fillIn, fillIn_size f l, put_tmps_size]
theorem fillIn_defers (f : Tmp → Value) : ∀ (l : List Oper) (a : Act), (fillIn f l a).defers = a.defers
  | [], a => rfl
  | o :: l, a => by rw [fillIn, fillIn_defers f l, put_defers]
theorem fillIn_out (f : Tmp → Value) (t : Tmp) : ∀ (l : List Oper) (a : Act), (∀ o ∈ l, o.dst ≠ some t) → (fillIn f l a).tmps[t]? = a.tmps[t]?
  | [], a, _ => rfl
  | o :: l, a, h => by rw [fillIn, fillIn_out f t l _ (fun o ho => h o (List.mem_cons_of_mem _ ho)), put_at _ _ _ _ (h o List.mem_cons_self)]
theorem fillIn_in (f : Tmp → Value) (t : Tmp) : ∀ (l : List Oper) (a : Act), t < a.tmps.size → (a.tmps[t]? = some (f t) ∨ ∃ o ∈ l, o.dst = some t) → (fillIn f l a).tmps[t]? = some (f t)
  | [], a, _, h => by
    rcases h with h | ⟨o, ho, _⟩
    · exact h
    · cases ho
  | o :: l, a, hs, h => by
    rw [fillIn]
    apply fillIn_in f t l _ (by rw [put_tmps_size]; exact hs)
    by_cases hd : o.dst = some t
    · left; rw [hd]; exact put_same a t (f t) hs
    · rcases h with h | ⟨o', ho, he⟩
      · left; rw [put_at _ _ _ _ hd]; exact h
      · rcases List.mem_cons.1 ho with rfl | ho
        · exact absurd he hd
        · exact Or.inr ⟨o', ho, he⟩
structure Same (l : List Oper) (a0 a : Act) : Prop where
  n : a.tmps.size = a0.tmps.size
  d : a.defers = a0.defers
  t : ∀ t, (∀ o ∈ l, o.dst ≠ some t) → a.tmps[t]? = a0.tmps[t]?
theorem Same.fill {l : List Oper} {a0 a : Act} (h : Same l a0 a) : a = fillIn (fun d => a.tmps.getD d undef) l a0 := by
  have h1 : a.tmps = (fillIn (fun d => a.tmps.getD d undef) l a0).tmps := by
    apply Array.ext_getElem?
    intro t
    by_cases hlt : t < a0.tmps.size
    · by_cases hd : ∃ o ∈ l, o.dst = some t
      · rw [fillIn_in _ t l a0 hlt (Or.inr hd)]
        rw [Array.getElem?_eq_getElem (by rw [h.n]; exact hlt)]
        simp [Array.getD, h.n, hlt]
      · have hd2 : ∀ o ∈ l, o.dst ≠ some t := fun o ho he => hd ⟨o, ho, he⟩
        rw [fillIn_out _ t l a0 hd2, h.t t hd2]
    · rw [Array.getElem?_eq_none (by rw [h.n]; omega), Array.getElem?_eq_none (by rw [fillIn_size]; omega)]
  have h2 := fillIn_defers (fun d => a.tmps.getD d undef) l a0
  generalize fillIn (fun d => a.tmps.getD d undef) l a0 = b at *
  obtain ⟨at_, ad⟩ := a
  obtain ⟨bt, bd⟩ := b
  have h3 := h.d
  simp only at h1 h2 h3
  rw [h1, h3, h2]
def aheadB (ops : Array Oper) : Bool := (List.range ops.size).all fun i => match ops[i]? with
  | some o => o.after.all fun e => !Region.binds .any e || decide (e.on < i)
  | none => true
def dsts (ops : Array Oper) : List Tmp := ops.toList.filterMap (·.dst)
def apartB : List Tmp → Bool
  | [] => true
  | t :: l => !l.contains t && apartB l
section
variable {P : Program} {ops : Array Oper} {Q : Exit → Act → World → Prop}
def deps (ops : Array Oper) (o : Oper) : List (Nat × Tmp) := o.after.toList.filterMap fun e => if Region.binds .any e = true then ((ops[e.on]?).bind (·.dst)).map fun d => (e.on, d) else none
def DepAll (R : Nat → Value → World → Prop) (f : Tmp → Value) (w : World) : List (Nat × Tmp) → Prop
  | [] => True
  | p :: l => R p.1 (f p.2) w ∧ DepAll R f w l
theorem depAll_of {R : Nat → Value → World → Prop} {f : Tmp → Value} {w : World} : ∀ {l : List (Nat × Tmp)}, (∀ p ∈ l, R p.1 (f p.2) w) → DepAll R f w l
  | [], _ => trivial
  | p :: l, h => ⟨h p List.mem_cons_self, depAll_of (fun q hq => h q (List.mem_cons_of_mem _ hq))⟩
def Ob (P : Program) (ops : Array Oper) (Q : Exit → Act → World → Prop) (S : World → Prop) (R : Nat → Value → World → Prop) (F : (Tmp → Value) → Act) (i : Nat) (o : Oper) : Prop :=
  ∀ (f : Tmp → Value) (w : World), S w → DepAll R f w (deps ops o) →
    ∀ K : Act → World → Prop, Shut (∀ v w', S w' → Below w.heap.size w w' → R i v w' → ∀ a', a' = (F f).put o.dst v → K a' w') →
      if Region.wanted o (yielded ops (F f).tmps) = true then Oper.wp P o (F f) w K Q else K ((F f).put o.dst undef) w
theorem apart_nodup : ∀ {l : List Tmp}, apartB l = true → l.Nodup
  | [], _ => List.nodup_nil
  | t :: l, h => by
    simp only [apartB, Bool.and_eq_true, Bool.not_eq_true'] at h
    exact List.nodup_cons.2 ⟨fun hm => by have := List.contains_iff_mem.2 hm; rw [this] at h; exact absurd h.1 (by decide), apart_nodup h.2⟩
theorem dst_apart_aux : ∀ (l : List Oper) (i j : Nat) (x y : Oper) (d : Tmp), (l.filterMap (·.dst)).Nodup → l[i]? = some x → l[j]? = some y → x.dst = some d → y.dst = some d → i = j
  | [], i, j, x, y, d, _, hi, _, _, _ => by simp at hi
  | o :: l, 0, 0, x, y, d, _, _, _, _, _ => rfl
  | o :: l, 0, j + 1, x, y, d, hn, hi, hj, hx, hy => by
    simp only [List.getElem?_cons_zero, Option.some.injEq] at hi
    simp only [List.getElem?_cons_succ] at hj
    subst hi
    rw [List.filterMap_cons_some hx] at hn
    exact absurd (List.mem_filterMap.2 ⟨y, List.mem_of_getElem? hj, hy⟩) (List.nodup_cons.1 hn).1
  | o :: l, i + 1, 0, x, y, d, hn, hi, hj, hx, hy => by
    simp only [List.getElem?_cons_zero, Option.some.injEq] at hj
    simp only [List.getElem?_cons_succ] at hi
    subst hj
    rw [List.filterMap_cons_some hy] at hn
    exact absurd (List.mem_filterMap.2 ⟨x, List.mem_of_getElem? hi, hx⟩) (List.nodup_cons.1 hn).1
  | o :: l, i + 1, j + 1, x, y, d, hn, hi, hj, hx, hy => by
    simp only [List.getElem?_cons_succ] at hi hj
    have h2 : (l.filterMap (·.dst)).Nodup := by
      cases hd : o.dst with
      | none => rwa [List.filterMap_cons_none hd] at hn
      | some t => rw [List.filterMap_cons_some hd] at hn; exact (List.nodup_cons.1 hn).2
    rw [dst_apart_aux l i j x y d h2 hi hj hx hy]
theorem dst_apart (h : apartB (dsts ops) = true) {i j : Nat} {x y : Oper} {d : Tmp} (hi : ops[i]? = some x) (hj : ops[j]? = some y) (hx : x.dst = some d) (hy : y.dst = some d) : i = j :=
  dst_apart_aux ops.toList i j x y d (apart_nodup h) (by simpa using hi) (by simpa using hj) hx hy
structure J (ops : Array Oper) (S : World → Prop) (R : Nat → Value → World → Prop) (a0 : Act) (listed : Array Bool) (a : Act) (w : World) : Prop where
  same : Same ops.toList a0 a
  s : S w
  r : ∀ i o d, ops[i]? = some o → o.dst = some d → listed.getD i false = true → R i (a.tmps.getD d undef) w
theorem J.step {S : World → Prop} {R : Nat → Value → World → Prop} {a0 a : Act} {listed : Array Bool} {w w' : World} (hap : apartB (dsts ops) = true) (hin : (dsts ops).all (· < a0.tmps.size) = true)
    (hR : ∀ i v w w', R i v w → Below w.heap.size w w' → R i v w') (h : J ops S R a0 listed a w) {i : Nat} {o : Oper} (hi : ops[i]? = some o) (hlen : listed.size = ops.size) {v : Value} (hS : S w') (hb : Below w.heap.size w w') (hv : R i v w') :
    J ops S R a0 (listed.setIfInBounds i true) (a.put o.dst v) w' := by
  refine ⟨⟨by rw [put_tmps_size]; exact h.same.n, by rw [put_defers]; exact h.same.d, fun t ht => ?_⟩, hS, fun j oj d hj hd hl => ?_⟩
  · rw [put_at _ _ _ _ (ht o (Array.mem_toList_iff.2 (Array.mem_of_getElem? hi)))]; exact h.same.t t ht
  · by_cases hij : i = j
    · subst hij
      rw [hi] at hj
      obtain rfl := Option.some.inj hj
      have hlt : d < a0.tmps.size := by
        have := List.all_eq_true.1 hin d (List.mem_filterMap.2 ⟨o, Array.mem_toList_iff.2 (Array.mem_of_getElem? hi), hd⟩)
        exact of_decide_eq_true this
      have h2 : (a.put o.dst v).tmps.getD d undef = v := by
        rw [hd, Array.getD_eq_getD_getElem?, put_same a d v (by rw [h.same.n]; exact hlt)]; rfl
      rw [h2]; exact hv
    · have hne : o.dst ≠ some d := fun he => hij (dst_apart hap hi hj he hd)
      have h2 : (a.put o.dst v).tmps.getD d undef = a.tmps.getD d undef := by
        rw [Array.getD_eq_getD_getElem?, put_at _ _ _ _ hne, Array.getD_eq_getD_getElem?]
      rw [h2]
      exact hR _ _ _ _ (h.r j oj d hj hd (by rw [getD_set_ne false hij] at hl; exact hl)) hb
theorem count_set_true (l : List Bool) (i : Nat) (h : l[i]? = some false) : (l.set i true).count false + 1 = l.count false := by
  induction l generalizing i with
  | nil => simp at h
  | cons b l ih =>
    cases i with
    | zero =>
      simp only [List.getElem?_cons_zero, Option.some.injEq] at h
      subst h
      simp
    | succ i =>
      simp only [List.getElem?_cons_succ] at h
      have := ih i h
      simp only [List.set_cons_succ, List.count_cons]
      omega
theorem any_of {S : World → Prop} {R : Nat → Value → World → Prop} {a0 : Act} {F : (Tmp → Value) → Act} (hF : ∀ f, fillIn f ops.toList a0 = F f) (hap : apartB (dsts ops) = true) (hin : (dsts ops).all (· < a0.tmps.size) = true) (hah : aheadB ops = true)
    (hR : ∀ i v w w', R i v w → Below w.heap.size w w' → R i v w')
    (hops : ∀ i o, ops[i]? = some o → Ob P ops Q S R F i o)
    (hend : ∀ (f : Tmp → Value) (w : World), S w → (∀ i o d, ops[i]? = some o → o.dst = some d → R i (f d) w) → Q .normal (F f) w) :
    ∀ (fuel : Nat) (listed : Array Bool) (a : Act) (w : World), listed.size = ops.size → listed.toList.count false = fuel → J ops S R a0 listed a w → wpAny P .any ops Q fuel listed a w := by
  have hfin : ∀ (listed : Array Bool) (a : Act) (w : World), listed.size = ops.size → listed.toList.count false = 0 → J ops S R a0 listed a w → Q .normal a w := by
    intro listed a w hl hc hJ
    have hall : ∀ i, i < ops.size → listed.getD i false = true := fun i hi => by
      have h1 : listed[i]'(by omega) ∈ listed.toList := by simp
      have h2 : listed[i]'(by omega) ≠ false := fun he => List.count_eq_zero.1 hc (he ▸ h1)
      rw [Array.getD_eq_getD_getElem?, Array.getElem?_eq_getElem (by omega)]
      simpa using h2
    rw [hJ.same.fill, hF]
    exact hend _ w hJ.s (fun i o d hi hd => hJ.r i o d hi hd (hall i (Array.getElem?_eq_some_iff.1 hi).1))
  intro fuel
  induction fuel with
  | zero =>
    intro listed a w hl hc hJ
    refine ⟨?_, hfin listed a w hl hc hJ⟩
    rw [List.eq_nil_iff_forall_not_mem]
    intro i hi
    obtain ⟨h1, o, ho, _⟩ := mem_ready.1 hi
    have hlt := (Array.getElem?_eq_some_iff.1 ho).1
    rw [Array.getD_eq_getD_getElem?, Array.getElem?_eq_getElem (by omega)] at h1
    have h2 : listed[i]'(by omega) ∈ listed.toList := by simp
    have h3 : listed[i]'(by omega) = false := by simpa using h1
    exact List.count_eq_zero.1 hc (h3 ▸ h2)
  | succ fuel ih =>
    intro listed a w hl hc hJ
    have hne : Region.ready .any ops listed ≠ [] := by
      intro he
      have hm : ∀ n i, i < n → i < ops.size → listed.getD i false = true := by
        intro n
        induction n with
        | zero => intro i hi; omega
        | succ n ihn =>
          intro i hi hio
          by_cases hlt : i < n
          · exact ihn i hlt hio
          · obtain rfl : i = n := by omega
            cases hg : listed.getD i false with
            | true => rfl
            | false =>
              exfalso
              have hmem : i ∈ Region.ready .any ops listed := by
                refine mem_ready.2 ⟨?_, ops[i], Array.getElem?_eq_getElem hio, fun e hem hbe => ?_⟩
                · rw [Array.getD_eq_getD_getElem?, Array.getElem?_eq_getElem (by omega)] at hg ⊢; exact hg
                · have h1 := List.all_eq_true.1 hah i (List.mem_range.2 hio)
                  rw [Array.getElem?_eq_getElem hio] at h1
                  have h2 := Array.all_eq_true_iff_forall_mem.1 h1 e hem
                  rw [hbe] at h2
                  have h3 : e.on < i := by simpa using h2
                  exact ihn e.on h3 (by omega)
              rw [he] at hmem
              cases hmem
      have h0 : listed.toList.count false = 0 := by
        rw [List.count_eq_zero]
        intro hmem
        obtain ⟨i, hi, hv⟩ := List.getElem_of_mem hmem
        have hi2 : i < ops.size := by simp at hi; omega
        have := hm (i + 1) i (by omega) hi2
        rw [Array.getD_eq_getD_getElem?, Array.getElem?_eq_getElem (by omega)] at this
        simp at hv this
        rw [hv] at this
        cases this
      omega
    refine ⟨fun he => absurd he hne, fun i hi => ?_⟩
    obtain ⟨h1, o, ho, hall⟩ := mem_ready.1 hi
    have hlt := (Array.getElem?_eq_some_iff.1 ho).1
    have hfill := hJ.same.fill
    rw [hF] at hfill
    have hob := hops i o ho (fun d => a.tmps.getD d undef) w hJ.s (depAll_of (fun p hp => by
        obtain ⟨e, he, hp⟩ := List.mem_filterMap.1 hp
        split at hp
        · rename_i hb
          obtain ⟨d, hd, rfl⟩ := Option.map_eq_some_iff.1 hp
          obtain ⟨o', ho', hd'⟩ := Option.bind_eq_some_iff.1 hd
          exact hJ.r e.on o' d ho' hd' (hall e (by simpa using he) hb)
        · cases hp))
      (fun a' w' => wpAny P .any ops Q fuel (listed.setIfInBounds i true) a' w') (by
        intro v w' hS hb hv a' ha'
        rw [ha', ← hfill]
        refine ih _ _ _ (by simpa using hl) ?_ (hJ.step hap hin hR ho hl hS hb hv)
        have := count_set_true listed.toList i (by
          rw [Array.getD_eq_getD_getElem?, Array.getElem?_eq_getElem (by omega)] at h1
          simp at h1
          simp [List.getElem?_eq_getElem, h1, hl, hlt])
        simp only [Array.toList_setIfInBounds]
        omega)
    rw [← hfill] at hob
    unfold wpOp
    rw [ho]
    simp only
    split
    · rename_i hw; rw [if_pos hw] at hob; exact Or.inl hob
    · rename_i hw; rw [if_neg hw] at hob; exact hob
def All (Ob : Nat → Oper → Prop) : Nat → List Oper → Prop
  | _, [] => True
  | i, o :: l => Ob i o ∧ All Ob (i + 1) l
theorem all_of {Ob : Nat → Oper → Prop} : ∀ (l : List Oper) (k : Nat), All Ob k l → ∀ i o, l[i]? = some o → Ob (k + i) o
  | [], _, _, i, o, h => by simp at h
  | x :: l, k, ha, 0, o, h => by simp only [List.getElem?_cons_zero, Option.some.injEq] at h; subst h; exact ha.1
  | x :: l, k, ha, i + 1, o, h => by
    simp only [List.getElem?_cons_succ] at h
    have := all_of l (k + 1) ha.2 i o h
    rwa [show k + 1 + i = k + (i + 1) by omega] at this
theorem all_ops {Ob : Nat → Oper → Prop} (l : List Oper) (h : All Ob 0 l) : ∀ i o, l.toArray[i]? = some o → Ob i o := fun i o hi => by
  have := all_of l 0 h i o (by simpa using hi)
  rwa [Nat.zero_add] at this
theorem region (S : World → Prop) (R : Nat → Value → World → Prop) {l : List Oper} {a0 : Act} {w0 : World} {id : Nat} {F : (Tmp → Value) → Act} (hF : ∀ f, fillIn f l a0 = F f) (hm : P.follows .mixedOrders = true) (hap : apartB (dsts l.toArray) = true) (hin : (dsts l.toArray).all (· < a0.tmps.size) = true) (hah : aheadB l.toArray = true)
    (hR : ∀ i v w w', R i v w → Below w.heap.size w w' → R i v w') (hS : S w0.drew)
    (hops : All (Ob P l.toArray Q S R F) 0 l)
    (hend : ∀ (f : Tmp → Value) (w : World), S w → (∀ i o d, l.toArray[i]? = some o → o.dst = some d → R i (f d) w) → Q .normal (F f) w) : (Code.region id l.toArray true).wp P Q a0 w0 := by
  refine wp_region_any hm (any_of (S := S) (R := R) (a0 := a0) (F := F) (by simpa using hF) hap hin hah hR (all_ops l hops) hend l.toArray.size _ a0 w0.drew (by simp) (by simp) ⟨⟨rfl, rfl, fun _ _ => rfl⟩, hS, fun i o d hi hd hl => ?_⟩)
  exfalso
  have hlt := (Array.getElem?_eq_some_iff.1 hi).1
  rw [Array.getD_eq_getD_getElem?, Array.getElem?_replicate, if_pos hlt] at hl
  cases hl
end
end Go.Proofs.YtgdcnmpcfoomiaaDoor.RegT
end
section
set_option linter.unusedVariables false
set_option linter.unusedSimpArgs false
namespace Go.Proofs.YtgdcnmpcfoomiaaDoor.G
open Go Go.Proofs Go.RowKit Go.Proofs.YtgdcnmpcfoomiaaDoorW.PrintWords Go.Proofs.YtgdcnmpcfoomiaaDoor.Pure
theorem awake4h_at : wickerlaw04_Awake.f 60 = some true := by kernel_rfl
theorem awake4h : Ev wickerlaw04_Awake.f true := Ev.of wickerlaw04_Awake.mono awake4h_at
theorem all_two {α : Type} (p q : α → Bool) (l : List α) : (l.all fun x => p x && q x) = (l.all p && l.all q) := by
  induction l with
  | nil => rfl
  | cons a l ih => rw [List.all_cons, List.all_cons, List.all_cons, ih]; cases p a <;> cases q a <;> simp
theorem shp4_is (l : List Int) : shp 4 l = (shp 0 l && (shp 1 l && (shp 2 l && shp 3 l))) := by
  rw [shp_0, shp_1, shp_2, shp_3, shp_4]
  match l with
  | [] => rfl
  | [s] => by_cases h : s < 0 <;> simp [h]
  | [s, t] => simp
  | s :: t :: u :: l => simp
theorem shp5_is (l : List Int) (h : shp 5 l = true) : shp 0 l = true ∧ shp 1 l = true := by
  rw [shp_5] at h
  simp only [Bool.and_eq_true, decide_eq_true_eq] at h
  rw [shp_0, shp_1]
  exact ⟨decide_eq_true h.1, by rw [decide_eq_true h.2.1, Bool.or_true]⟩
theorem hang_4 (l3 : List GRule) : (l3.all fun r => shp 4 r.f1) = ((l3.all fun r => shp 0 r.f1) && ((l3.all fun r => shp 1 r.f1) && ((l3.all fun r => shp 2 r.f1) && (l3.all fun r => shp 3 r.f1)))) := by
  rw [← all_two, ← all_two, ← all_two]
  exact congrArg (fun p => l3.all p) (funext fun r => shp4_is r.f1)
theorem hang_5 (l3 : List GRule) (h : (l3.all fun r => shp 5 r.f1) = true) : (l3.all fun r => shp 0 r.f1) = true ∧ (l3.all fun r => shp 1 r.f1) = true :=
  ⟨List.all_eq_true.2 fun r hr => (shp5_is r.f1 (List.all_eq_true.1 h r hr)).1, List.all_eq_true.2 fun r hr => (shp5_is r.f1 (List.all_eq_true.1 h r hr)).2⟩
theorem form4_nil (A0 : Option Addr) (c0 : Nat) (l0 : List ByteArray) (A1 : Option Addr) (c1 : Nat) (l1 : List ByteArray) (a2 : Int) (w : World) :
    Calls Tryd.prog 17 #[.agg #[.slice A0 l0.length c0, .slice A1 l1.length c1, .int .i64 a2, .slice none 0 0]] w fun e w' => e = .returned (.bool true) ∧ Below w.heap.size w w' :=
  form4_calls A0 c0 l0 A1 c1 l1 a2 none 0 [] (by simp) rfl w (Kd.C_nil _ _) (by simp)
theorem form5_nil (A0 : Option Addr) (c0 : Nat) (l0 : List ByteArray) (A1 : Option Addr) (c1 : Nat) (l1 : List ByteArray) (a2 : Int) (w : World) :
    Calls Tryd.prog 18 #[.agg #[.slice A0 l0.length c0, .slice A1 l1.length c1, .int .i64 a2, .slice none 0 0]] w fun e w' => e = .returned (.bool true) ∧ Below w.heap.size w w' :=
  form5_calls A0 c0 l0 A1 c1 l1 a2 none 0 [] (by simp) rfl w (Kd.C_nil _ _) (by simp)
set_option maxHeartbeats 16000000 in
set_option maxRecDepth 100000 in
theorem shapeHang_calls (w : World) (hG : Laid w) (A0 : Option Addr) (c0 : Nat) (l0 : List ByteArray) (A1 : Option Addr) (c1 : Nat) (l1 : List ByteArray) (a2 : Int) (A3 : Option Addr) (c3 : Nat) (l3 : List GRule) (hg : GIn l0 l1 a2 l3) (h0 : l0.length ≤ c0) (h1 : l1.length ≤ c1) (h3 : l3.length ≤ c3)
    (hr0 : Kd.C Kd.string w A0 l0.length l0) (hr1 : Kd.C Kd.string w A1 l1.length l1) (hr3 : Kd.C k35 w A3 l3.length l3) :
    Calls Tryd.prog 4 #[.agg #[.slice A0 l0.length c0, .slice A1 l1.length c1, .int .i64 a2, .slice A3 l3.length c3]] w fun e w' => e = .returned (.bool true) ∧ Below w.heap.size w w' := by
  have hu := Tryd.underlying25
  have HG := Lib.hid hG
  obtain ⟨KS, hKS⟩ := Pure.Ev.out (small_f l0 l1 a2 l3 hg)
  have HKS := Lib.hid (hKS KS (Nat.le_refl _))
  obtain ⟨KA, hKA⟩ := Pure.Ev.out awake4h
  have HAW := Lib.hid (hKA KA (Nat.le_refl _))
  have HIB : Hid (InB w A0 c0 l0 A1 c1 l1 a2 A3 c3 l3 (w.alloc (.cells #[.slice A0 l0.length c0, .slice A1 l1.length c1, .int .i64 a2, .slice A3 l3.length c3] 25))) := Lib.hid ⟨⟨blk_new w _, Kd.C_alloc hr0 _, Kd.C_alloc hr1 _, Kd.C_alloc hr3 _⟩, (Below.refl _ _).alloc (Nat.le_refl _) _⟩
  have HH := Lib.hid hg
  clear hG hKS hKA hr0 hr1 hr3 hg
  go_enter Tryd.func4, Tryd.ntmps4
  go_wp2_with fail
  refine (wickerlaw02_Small.calls KS A0 c0 l0 A1 c1 l1 a2 A3 c3 l3 _ _ HIB.out.r0 h0 HIB.out.r1 h1 HIB.out.r3 h3 HKS.out).mono ?_
  rintro e w2 ⟨rfl, hb2⟩
  have hI2 := HIB.out.step hb2
  clear hb2 HIB
  cases hs : smallB l0 l1 l3 with
  | false =>
    have HI2 := Lib.hid hI2
    clear hI2 hs
    go_wp2_with fail
    refine (wickerlaw04_Awake.calls KA true _ (Laid.below HG.out HI2.out.bel) HAW.out).mono ?_
    rintro e w3 ⟨rfl, hb3⟩
    have hB3 := HI2.out.bel.trans (hb3.mono HI2.out.bel.size)
    clear hb3
    go_wp2
    go_ret
    exact ⟨rfl, hB3⟩
  | true =>
    obtain ⟨hok, hn0, hn1, hn3, _⟩ := small_ok HH.out hs
    have HN : Hid (l3.length ≤ 1000000) := Lib.hid (by omega)
    have HRO : Hid (l3.all ruleOk = true) := Lib.hid (by
      simp only [gramOk, Bool.and_eq_true] at hok
      exact hok.2)
    have hz0 := hI2.c0
    have hz1 := hI2.c1
    have hz2 := hI2.c2
    have hz3 := hI2.c3
    have HI2 := Lib.hid hI2
    clear hI2 hs hok
    go_wp2_with fail
    refine (form4_nil A0 c0 l0 A1 c1 l1 a2 _).mono ?_
    rintro e w3 ⟨rfl, hb3⟩
    clear hz0 hz1 hz2 hz3
    have hbx := blk_new w2 (.cells #[.slice A0 l0.length c0, .slice A1 l1.length c1, .int .i64 a2, .slice none 0 0] 25)
    have hbel : Below w2.heap.size w2 (w2.alloc (.cells #[.slice A0 l0.length c0, .slice A1 l1.length c1, .int .i64 a2, .slice none 0 0] 25)) := (Below.refl _ _).alloc (Nat.le_refl _) _
    have hgx := blk_below hbx hb3
    have hI3 := (HI2.out.step hbel).step hb3
    have hy0 : w3.cell? ⟨w2.heap.size, 0, none⟩ = some (.slice A0 l0.length c0) := (blk_cell hgx 0).trans rfl
    have hy1 : w3.cell? ⟨w2.heap.size, 1, none⟩ = some (.slice A1 l1.length c1) := (blk_cell hgx 1).trans rfl
    have hy2 : w3.cell? ⟨w2.heap.size, 2, none⟩ = some (.int .i64 a2) := (blk_cell hgx 2).trans rfl
    have hy3 : w3.cell? ⟨w2.heap.size, 3, none⟩ = some (.slice none 0 0) := (blk_cell hgx 3).trans rfl
    have HI3 := Lib.hid hI3
    clear hb3 hbx hbel hgx hI3 HI2
    go_wp2_with fail
    refine (form5_nil A0 c0 l0 A1 c1 l1 a2 _).mono ?_
    rintro e w4 ⟨rfl, hb4⟩
    have hI4 := HI3.out.step hb4
    clear hb4 HI3 hy0 hy1 hy2 hy3
    go_wp2_with fail
    have hI : InB w A0 c0 l0 A1 c1 l1 a2 A3 c3 l3 w4.drew := hI4.step (Below.refl _ _).drew
    clear hI4
    have hz0 := hI.c0
    have hz1 := hI.c1
    have hz2 := hI.c2
    have hz3 := hI.c3
    have HC0 := Lib.hid (fun (W : World) hr => form0_calls A0 c0 l0 A1 c1 l1 a2 A3 c3 l3 HN.out HRO.out W hr h3)
    have HC1 := Lib.hid (fun (W : World) hr => form1_calls A0 c0 l0 A1 c1 l1 a2 A3 c3 l3 HN.out HRO.out W hr h3)
    have HC2 := Lib.hid (fun (W : World) hr => form2_calls A0 c0 l0 A1 c1 l1 a2 A3 c3 l3 HN.out HRO.out W hr h3)
    have HC3 := Lib.hid (fun (W : World) hr => form3_calls A0 c0 l0 A1 c1 l1 a2 A3 c3 l3 HN.out HRO.out W hr h3)
    have HC4 := Lib.hid (fun (W : World) hr => form4_calls A0 c0 l0 A1 c1 l1 a2 A3 c3 l3 HN.out HRO.out W hr h3)
    have HC5 := Lib.hid (fun (W : World) hr => form5_calls A0 c0 l0 A1 c1 l1 a2 A3 c3 l3 HN.out HRO.out W hr h3)
    have h4 := hang_4 l3
    have h5 := hang_5 l3
    rw [h4] at HC4
    generalize (l3.all fun r => shp 0 r.f1) = b0 at *
    generalize (l3.all fun r => shp 1 r.f1) = b1 at *
    generalize (l3.all fun r => shp 2 r.f1) = b2 at *
    generalize (l3.all fun r => shp 3 r.f1) = b3 at *
    generalize (l3.all fun r => shp 5 r.f1) = b5 at *
    have H5 := Lib.hid h5
    clear h4 h5
    refine RegT.region (F := ?F) (fun W => InB w A0 c0 l0 A1 c1 l1 a2 A3 c3 l3 W) (fun i v w => match i with | 0 => v = .bool true | 1 => v = .bool true | 2 => v = .agg #[.slice A0 l0.length c0, .slice A1 l1.length c1, .int .i64 a2, .slice A3 l3.length c3] | 3 => v = .bool (b0 && (b1 && (b2 && b3))) | 4 => v = .agg #[.slice A0 l0.length c0, .slice A1 l1.length c1, .int .i64 a2, .slice A3 l3.length c3] | 5 => v = .bool b0 | 6 => v = .bool b0 | 7 => v = if b0 = true then .agg #[.slice A0 l0.length c0, .slice A1 l1.length c1, .int .i64 a2, .slice A3 l3.length c3] else undef | 8 => v = if b0 = true then .bool b1 else undef | 9 => v = .bool (b0 && b1) | 10 => v = .bool (b0 && b1) | 11 => v = if (b0 && b1) = true then .agg #[.slice A0 l0.length c0, .slice A1 l1.length c1, .int .i64 a2, .slice A3 l3.length c3] else undef | 12 => v = if (b0 && b1) = true then .bool b2 else undef | 13 => v = .bool ((b0 && b1) && b2) | 14 => v = .bool ((b0 && b1) && b2) | 15 => v = if ((b0 && b1) && b2) = true then .agg #[.slice A0 l0.length c0, .slice A1 l1.length c1, .int .i64 a2, .slice A3 l3.length c3] else undef | 16 => v = if ((b0 && b1) && b2) = true then .bool b3 else undef | 17 => v = .bool (b0 && (b1 && (b2 && b3))) | 18 => v = .bool true | 19 => v = .bool true | 20 => v = .bool true | 21 => v = .agg #[.slice A0 l0.length c0, .slice A1 l1.length c1, .int .i64 a2, .slice A3 l3.length c3] | 22 => v = .bool b5 | 23 => v = .bool (!b5) | 24 => v = .bool (!b5) | 25 => v = if b5 = true then .agg #[.slice A0 l0.length c0, .slice A1 l1.length c1, .int .i64 a2, .slice A3 l3.length c3] else undef | 26 => v = if b5 = true then .bool b0 else undef | 27 => v = if b5 = true then .bool b0 else undef | 28 => v = if (b5 && b0) = true then .agg #[.slice A0 l0.length c0, .slice A1 l1.length c1, .int .i64 a2, .slice A3 l3.length c3] else undef | 29 => v = if (b5 && b0) = true then .bool b1 else undef | 30 => v = if b5 = true then .bool (b0 && b1) else undef | 31 => v = .bool true | 32 => v = .bool true | 33 => v = .bool true | _ => True) ?hF (by kernel_rfl) (by kernel_rfl) (by kernel_rfl) (by kernel_rfl) ?hR ?hS ⟨?o0, ?o1, ?o2, ?o3, ?o4, ?o5, ?o6, ?o7, ?o8, ?o9, ?o10, ?o11, ?o12, ?o13, ?o14, ?o15, ?o16, ?o17, ?o18, ?o19, ?o20, ?o21, ?o22, ?o23, ?o24, ?o25, ?o26, ?o27, ?o28, ?o29, ?o30, ?o31, ?o32, ?o33, trivial⟩ ?hend
    case hF => intro f; (try simp only [RegT.fillIn, RegT.fv, Act.put, List.setIfInBounds_toArray, List.set_cons_zero, List.set_cons_succ]); exact rfl
    case hR => exact fun _ _ _ _ h _ => h
    case hS => exact hI
    case o0 =>
      intro f w hS hd K hK
      clear hd
      go_simp
      go_at_call 10
      (with_reducible refine (wickerlaw04_Awake.calls KA true _ (Laid.below HG.out hS.bel) HAW.out).mono ?_)
      rintro e w' ⟨rfl, hb⟩
      have hS' := hS.step hb
      exact hK.out (.bool true) _ hS' hb rfl _ (by rfl)
    case o1 =>
      intro f w hS hd K hK
      obtain ⟨e18, -, -⟩ := hd
      replace e18 : f 18 = .bool true := e18
      (go_simp; first | exact hK.out (.bool true) _ hS (Below.refl _ _) rfl _ (by (try simp only [e18]); rfl))
    case o2 =>
      intro f w hS hd K hK
      obtain ⟨e19, -⟩ := hd
      replace e19 : f 19 = .bool true := e19
      have z0 := hS.c0
      have z1 := hS.c1
      have z2 := hS.c2
      have z3 := hS.c3
      (go_simp; first | exact hK.out (.agg #[.slice A0 l0.length c0, .slice A1 l1.length c1, .int .i64 a2, .slice A3 l3.length c3]) _ hS (Below.refl _ _) rfl _ (by (try simp only [e19]); rfl))
    case o3 =>
      intro f w hS hd K hK
      obtain ⟨e20, e19, -, -⟩ := hd
      replace e20 : f 20 = .agg #[.slice A0 l0.length c0, .slice A1 l1.length c1, .int .i64 a2, .slice A3 l3.length c3] := e20
      replace e19 : f 19 = .bool true := e19
      go_simp
      go_at_call 17
      (with_reducible refine (HC4.out _ hS.r3).mono ?_)
      rintro e w' ⟨rfl, hb⟩
      have hS' := hS.step hb
      exact hK.out (.bool (b0 && (b1 && (b2 && b3)))) _ hS' hb rfl _ (by (try simp only [e20, e19]); rfl)
    case o4 =>
      intro f w hS hd K hK
      obtain ⟨e19, -⟩ := hd
      replace e19 : f 19 = .bool true := e19
      have z0 := hS.c0
      have z1 := hS.c1
      have z2 := hS.c2
      have z3 := hS.c3
      (go_simp; first | exact hK.out (.agg #[.slice A0 l0.length c0, .slice A1 l1.length c1, .int .i64 a2, .slice A3 l3.length c3]) _ hS (Below.refl _ _) rfl _ (by (try simp only [e19]); rfl))
    case o5 =>
      intro f w hS hd K hK
      obtain ⟨e22, -, e19, -⟩ := hd
      replace e22 : f 22 = .agg #[.slice A0 l0.length c0, .slice A1 l1.length c1, .int .i64 a2, .slice A3 l3.length c3] := e22
      replace e19 : f 19 = .bool true := e19
      go_simp
      go_at_call 12
      (with_reducible refine (HC0.out _ hS.r3).mono ?_)
      rintro e w' ⟨rfl, hb⟩
      have hS' := hS.step hb
      exact hK.out (.bool b0) _ hS' hb rfl _ (by (try simp only [e22, e19]); rfl)
    case o6 =>
      intro f w hS hd K hK
      obtain ⟨e23, -, e19, -⟩ := hd
      replace e23 : f 23 = .bool b0 := e23
      replace e19 : f 19 = .bool true := e19
      (go_simp; first | exact hK.out (.bool b0) _ hS (Below.refl _ _) rfl _ (by (try simp only [e23, e19]); rfl))
    case o7 =>
      intro f w hS hd K hK
      obtain ⟨e24, -⟩ := hd
      replace e24 : f 24 = .bool b0 := e24
      have HKV := Lib.hid (hK.out (.agg #[.slice A0 l0.length c0, .slice A1 l1.length c1, .int .i64 a2, .slice A3 l3.length c3]))
      cases b0
      all_goals (try simp only [Bool.true_and, Bool.false_and, Bool.and_true, Bool.and_false, Bool.true_or, Bool.false_or, Bool.or_true, Bool.or_false, Bool.not_true, Bool.not_false, if_true, reduceIte, Bool.false_eq_true] at e24)
      all_goals (have z0 := hS.c0)
      all_goals (have z1 := hS.c1)
      all_goals (have z2 := hS.c2)
      all_goals (have z3 := hS.c3)
      all_goals (go_simp; first | exact hK.out undef _ hS (Below.refl _ _) rfl _ (by (try simp only [e24]); rfl) | exact HKV.out _ hS (Below.refl _ _) rfl _ (by (try simp only [e24]); rfl))
    case o8 =>
      intro f w hS hd K hK
      obtain ⟨e25, e24, -, -⟩ := hd
      replace e25 : f 25 = if b0 = true then .agg #[.slice A0 l0.length c0, .slice A1 l1.length c1, .int .i64 a2, .slice A3 l3.length c3] else undef := e25
      replace e24 : f 24 = .bool b0 := e24
      have HKV := Lib.hid (hK.out (.bool b1))
      cases b0
      all_goals (try simp only [Bool.true_and, Bool.false_and, Bool.and_true, Bool.and_false, Bool.true_or, Bool.false_or, Bool.or_true, Bool.or_false, Bool.not_true, Bool.not_false, if_true, reduceIte, Bool.false_eq_true] at e25 e24)
      all_goals (go_simp; first | exact hK.out undef _ hS (Below.refl _ _) rfl _ (by (try simp only [e25, e24]); rfl) | (go_at_call 14; (with_reducible refine (HC1.out _ hS.r3).mono ?_); rintro e w' ⟨rfl, hb⟩; have hS' := hS.step hb; exact HKV.out _ hS' hb rfl _ (by (try simp only [e25, e24]); rfl)))
    case o9 =>
      intro f w hS hd K hK
      obtain ⟨e24, e26, e19, -⟩ := hd
      replace e24 : f 24 = .bool b0 := e24
      replace e26 : f 26 = if b0 = true then .bool b1 else undef := e26
      replace e19 : f 19 = .bool true := e19
      have HKV := Lib.hid (hK.out (.bool (b0 && b1)))
      cases b0
      all_goals (try simp only [Bool.true_and, Bool.false_and, Bool.and_true, Bool.and_false, Bool.true_or, Bool.false_or, Bool.or_true, Bool.or_false, Bool.not_true, Bool.not_false, if_true, reduceIte, Bool.false_eq_true] at e24 e26 e19)
      all_goals (go_simp; first | exact HKV.out _ hS (Below.refl _ _) rfl _ (by (try simp only [e24, e26, e19]); rfl))
    case o10 =>
      intro f w hS hd K hK
      obtain ⟨e27, -, e19, -⟩ := hd
      replace e27 : f 27 = .bool (b0 && b1) := e27
      replace e19 : f 19 = .bool true := e19
      (go_simp; first | exact hK.out (.bool (b0 && b1)) _ hS (Below.refl _ _) rfl _ (by (try simp only [e27, e19]); rfl))
    case o11 =>
      intro f w hS hd K hK
      obtain ⟨e28, -⟩ := hd
      replace e28 : f 28 = .bool (b0 && b1) := e28
      have HKV := Lib.hid (hK.out (.agg #[.slice A0 l0.length c0, .slice A1 l1.length c1, .int .i64 a2, .slice A3 l3.length c3]))
      cases b0
      all_goals cases b1
      all_goals (try simp only [Bool.true_and, Bool.false_and, Bool.and_true, Bool.and_false, Bool.true_or, Bool.false_or, Bool.or_true, Bool.or_false, Bool.not_true, Bool.not_false, if_true, reduceIte, Bool.false_eq_true] at e28)
      all_goals (have z0 := hS.c0)
      all_goals (have z1 := hS.c1)
      all_goals (have z2 := hS.c2)
      all_goals (have z3 := hS.c3)
      all_goals (go_simp; first | exact hK.out undef _ hS (Below.refl _ _) rfl _ (by (try simp only [e28]); rfl) | exact HKV.out _ hS (Below.refl _ _) rfl _ (by (try simp only [e28]); rfl))
    case o12 =>
      intro f w hS hd K hK
      obtain ⟨e29, e28, -, -⟩ := hd
      replace e29 : f 29 = if (b0 && b1) = true then .agg #[.slice A0 l0.length c0, .slice A1 l1.length c1, .int .i64 a2, .slice A3 l3.length c3] else undef := e29
      replace e28 : f 28 = .bool (b0 && b1) := e28
      have HKV := Lib.hid (hK.out (.bool b2))
      cases b0
      all_goals cases b1
      all_goals (try simp only [Bool.true_and, Bool.false_and, Bool.and_true, Bool.and_false, Bool.true_or, Bool.false_or, Bool.or_true, Bool.or_false, Bool.not_true, Bool.not_false, if_true, reduceIte, Bool.false_eq_true] at e29 e28)
      all_goals (go_simp; first | exact hK.out undef _ hS (Below.refl _ _) rfl _ (by (try simp only [e29, e28]); rfl) | (go_at_call 15; (with_reducible refine (HC2.out _ hS.r3).mono ?_); rintro e w' ⟨rfl, hb⟩; have hS' := hS.step hb; exact HKV.out _ hS' hb rfl _ (by (try simp only [e29, e28]); rfl)))
    case o13 =>
      intro f w hS hd K hK
      obtain ⟨e28, e30, e19, -⟩ := hd
      replace e28 : f 28 = .bool (b0 && b1) := e28
      replace e30 : f 30 = if (b0 && b1) = true then .bool b2 else undef := e30
      replace e19 : f 19 = .bool true := e19
      have HKV := Lib.hid (hK.out (.bool ((b0 && b1) && b2)))
      cases b0
      all_goals cases b1
      all_goals (try simp only [Bool.true_and, Bool.false_and, Bool.and_true, Bool.and_false, Bool.true_or, Bool.false_or, Bool.or_true, Bool.or_false, Bool.not_true, Bool.not_false, if_true, reduceIte, Bool.false_eq_true] at e28 e30 e19)
      all_goals (go_simp; first | exact HKV.out _ hS (Below.refl _ _) rfl _ (by (try simp only [e28, e30, e19]); rfl))
    case o14 =>
      intro f w hS hd K hK
      obtain ⟨e31, -, e19, -⟩ := hd
      replace e31 : f 31 = .bool ((b0 && b1) && b2) := e31
      replace e19 : f 19 = .bool true := e19
      (go_simp; first | exact hK.out (.bool ((b0 && b1) && b2)) _ hS (Below.refl _ _) rfl _ (by (try simp only [e31, e19]); rfl))
    case o15 =>
      intro f w hS hd K hK
      obtain ⟨e32, -⟩ := hd
      replace e32 : f 32 = .bool ((b0 && b1) && b2) := e32
      have HKV := Lib.hid (hK.out (.agg #[.slice A0 l0.length c0, .slice A1 l1.length c1, .int .i64 a2, .slice A3 l3.length c3]))
      cases b0
      all_goals cases b1
      all_goals cases b2
      all_goals (try simp only [Bool.true_and, Bool.false_and, Bool.and_true, Bool.and_false, Bool.true_or, Bool.false_or, Bool.or_true, Bool.or_false, Bool.not_true, Bool.not_false, if_true, reduceIte, Bool.false_eq_true] at e32)
      all_goals (have z0 := hS.c0)
      all_goals (have z1 := hS.c1)
      all_goals (have z2 := hS.c2)
      all_goals (have z3 := hS.c3)
      all_goals (go_simp; first | exact hK.out undef _ hS (Below.refl _ _) rfl _ (by (try simp only [e32]); rfl) | exact HKV.out _ hS (Below.refl _ _) rfl _ (by (try simp only [e32]); rfl))
    case o16 =>
      intro f w hS hd K hK
      obtain ⟨e33, e32, -, -⟩ := hd
      replace e33 : f 33 = if ((b0 && b1) && b2) = true then .agg #[.slice A0 l0.length c0, .slice A1 l1.length c1, .int .i64 a2, .slice A3 l3.length c3] else undef := e33
      replace e32 : f 32 = .bool ((b0 && b1) && b2) := e32
      have HKV := Lib.hid (hK.out (.bool b3))
      cases b0
      all_goals cases b1
      all_goals cases b2
      all_goals (try simp only [Bool.true_and, Bool.false_and, Bool.and_true, Bool.and_false, Bool.true_or, Bool.false_or, Bool.or_true, Bool.or_false, Bool.not_true, Bool.not_false, if_true, reduceIte, Bool.false_eq_true] at e33 e32)
      all_goals (go_simp; first | exact hK.out undef _ hS (Below.refl _ _) rfl _ (by (try simp only [e33, e32]); rfl) | (go_at_call 16; (with_reducible refine (HC3.out _ hS.r3).mono ?_); rintro e w' ⟨rfl, hb⟩; have hS' := hS.step hb; exact HKV.out _ hS' hb rfl _ (by (try simp only [e33, e32]); rfl)))
    case o17 =>
      intro f w hS hd K hK
      obtain ⟨e32, e34, e19, -⟩ := hd
      replace e32 : f 32 = .bool ((b0 && b1) && b2) := e32
      replace e34 : f 34 = if ((b0 && b1) && b2) = true then .bool b3 else undef := e34
      replace e19 : f 19 = .bool true := e19
      have HKV := Lib.hid (hK.out (.bool (b0 && (b1 && (b2 && b3)))))
      cases b0
      all_goals cases b1
      all_goals cases b2
      all_goals (try simp only [Bool.true_and, Bool.false_and, Bool.and_true, Bool.and_false, Bool.true_or, Bool.false_or, Bool.or_true, Bool.or_false, Bool.not_true, Bool.not_false, if_true, reduceIte, Bool.false_eq_true] at e32 e34 e19)
      all_goals (go_simp; first | exact HKV.out _ hS (Below.refl _ _) rfl _ (by (try simp only [e32, e34, e19]); rfl))
    case o18 =>
      intro f w hS hd K hK
      obtain ⟨e21, e35, e19, -⟩ := hd
      replace e21 : f 21 = .bool (b0 && (b1 && (b2 && b3))) := e21
      replace e35 : f 35 = .bool (b0 && (b1 && (b2 && b3))) := e35
      replace e19 : f 19 = .bool true := e19
      (go_simp; first | (skip; exact hK.out (.bool true) _ hS (Below.refl _ _) rfl _ (by (try simp only [e21, e35, e19]); rfl)))
    case o19 =>
      intro f w hS hd K hK
      obtain ⟨e19, e36, -⟩ := hd
      replace e19 : f 19 = .bool true := e19
      replace e36 : f 36 = .bool true := e36
      (go_simp; first | exact hK.out (.bool true) _ hS (Below.refl _ _) rfl _ (by (try simp only [e19, e36]); rfl))
    case o20 =>
      intro f w hS hd K hK
      obtain ⟨e37, -, -⟩ := hd
      replace e37 : f 37 = .bool true := e37
      (go_simp; first | exact hK.out (.bool true) _ hS (Below.refl _ _) rfl _ (by (try simp only [e37]); rfl))
    case o21 =>
      intro f w hS hd K hK
      obtain ⟨e38, -⟩ := hd
      replace e38 : f 38 = .bool true := e38
      have z0 := hS.c0
      have z1 := hS.c1
      have z2 := hS.c2
      have z3 := hS.c3
      (go_simp; first | exact hK.out (.agg #[.slice A0 l0.length c0, .slice A1 l1.length c1, .int .i64 a2, .slice A3 l3.length c3]) _ hS (Below.refl _ _) rfl _ (by (try simp only [e38]); rfl))
    case o22 =>
      intro f w hS hd K hK
      obtain ⟨e39, e38, -, -⟩ := hd
      replace e39 : f 39 = .agg #[.slice A0 l0.length c0, .slice A1 l1.length c1, .int .i64 a2, .slice A3 l3.length c3] := e39
      replace e38 : f 38 = .bool true := e38
      go_simp
      go_at_call 18
      (with_reducible refine (HC5.out _ hS.r3).mono ?_)
      rintro e w' ⟨rfl, hb⟩
      have hS' := hS.step hb
      exact hK.out (.bool b5) _ hS' hb rfl _ (by (try simp only [e39, e38]); rfl)
    case o23 =>
      intro f w hS hd K hK
      obtain ⟨e40, e38, -⟩ := hd
      replace e40 : f 40 = .bool b5 := e40
      replace e38 : f 38 = .bool true := e38
      (go_simp; first | exact hK.out (.bool (!b5)) _ hS (Below.refl _ _) rfl _ (by (try simp only [e40, e38]); rfl))
    case o24 =>
      intro f w hS hd K hK
      obtain ⟨e41, -, e38, -⟩ := hd
      replace e41 : f 41 = .bool (!b5) := e41
      replace e38 : f 38 = .bool true := e38
      (go_simp; first | exact hK.out (.bool (!b5)) _ hS (Below.refl _ _) rfl _ (by (try simp only [e41, e38]); rfl))
    case o25 =>
      intro f w hS hd K hK
      obtain ⟨e42, -⟩ := hd
      replace e42 : f 42 = .bool (!b5) := e42
      have HKV := Lib.hid (hK.out (.agg #[.slice A0 l0.length c0, .slice A1 l1.length c1, .int .i64 a2, .slice A3 l3.length c3]))
      cases b5
      all_goals (try simp only [Bool.true_and, Bool.false_and, Bool.and_true, Bool.and_false, Bool.true_or, Bool.false_or, Bool.or_true, Bool.or_false, Bool.not_true, Bool.not_false, if_true, reduceIte, Bool.false_eq_true] at e42)
      all_goals (have z0 := hS.c0)
      all_goals (have z1 := hS.c1)
      all_goals (have z2 := hS.c2)
      all_goals (have z3 := hS.c3)
      all_goals (go_simp; first | exact hK.out undef _ hS (Below.refl _ _) rfl _ (by (try simp only [e42]); rfl) | exact HKV.out _ hS (Below.refl _ _) rfl _ (by (try simp only [e42]); rfl))
    case o26 =>
      intro f w hS hd K hK
      obtain ⟨e43, e42, -, -⟩ := hd
      replace e43 : f 43 = if b5 = true then .agg #[.slice A0 l0.length c0, .slice A1 l1.length c1, .int .i64 a2, .slice A3 l3.length c3] else undef := e43
      replace e42 : f 42 = .bool (!b5) := e42
      have HKV := Lib.hid (hK.out (.bool b0))
      cases b5
      all_goals (try simp only [Bool.true_and, Bool.false_and, Bool.and_true, Bool.and_false, Bool.true_or, Bool.false_or, Bool.or_true, Bool.or_false, Bool.not_true, Bool.not_false, if_true, reduceIte, Bool.false_eq_true] at e43 e42)
      all_goals (go_simp; first | exact hK.out undef _ hS (Below.refl _ _) rfl _ (by (try simp only [e43, e42]); rfl) | (go_at_call 12; (with_reducible refine (HC0.out _ hS.r3).mono ?_); rintro e w' ⟨rfl, hb⟩; have hS' := hS.step hb; exact HKV.out _ hS' hb rfl _ (by (try simp only [e43, e42]); rfl)))
    case o27 =>
      intro f w hS hd K hK
      obtain ⟨e44, -, e42, -⟩ := hd
      replace e44 : f 44 = if b5 = true then .bool b0 else undef := e44
      replace e42 : f 42 = .bool (!b5) := e42
      have HKV := Lib.hid (hK.out (.bool b0))
      cases b5
      all_goals (try simp only [Bool.true_and, Bool.false_and, Bool.and_true, Bool.and_false, Bool.true_or, Bool.false_or, Bool.or_true, Bool.or_false, Bool.not_true, Bool.not_false, if_true, reduceIte, Bool.false_eq_true] at e44 e42)
      all_goals (go_simp; first | exact hK.out undef _ hS (Below.refl _ _) rfl _ (by (try simp only [e44, e42]); rfl) | exact HKV.out _ hS (Below.refl _ _) rfl _ (by (try simp only [e44, e42]); rfl))
    case o28 =>
      intro f w hS hd K hK
      obtain ⟨e45, -⟩ := hd
      replace e45 : f 45 = if b5 = true then .bool b0 else undef := e45
      have HKV := Lib.hid (hK.out (.agg #[.slice A0 l0.length c0, .slice A1 l1.length c1, .int .i64 a2, .slice A3 l3.length c3]))
      cases b0
      all_goals cases b5
      all_goals (try simp only [Bool.true_and, Bool.false_and, Bool.and_true, Bool.and_false, Bool.true_or, Bool.false_or, Bool.or_true, Bool.or_false, Bool.not_true, Bool.not_false, if_true, reduceIte, Bool.false_eq_true] at e45)
      all_goals (have z0 := hS.c0)
      all_goals (have z1 := hS.c1)
      all_goals (have z2 := hS.c2)
      all_goals (have z3 := hS.c3)
      all_goals (go_simp; first | exact hK.out undef _ hS (Below.refl _ _) rfl _ (by (try simp only [e45]); rfl) | exact HKV.out _ hS (Below.refl _ _) rfl _ (by (try simp only [e45]); rfl))
    case o29 =>
      intro f w hS hd K hK
      obtain ⟨e46, e45, -, -⟩ := hd
      replace e46 : f 46 = if (b5 && b0) = true then .agg #[.slice A0 l0.length c0, .slice A1 l1.length c1, .int .i64 a2, .slice A3 l3.length c3] else undef := e46
      replace e45 : f 45 = if b5 = true then .bool b0 else undef := e45
      have HKV := Lib.hid (hK.out (.bool b1))
      cases b0
      all_goals cases b5
      all_goals (try simp only [Bool.true_and, Bool.false_and, Bool.and_true, Bool.and_false, Bool.true_or, Bool.false_or, Bool.or_true, Bool.or_false, Bool.not_true, Bool.not_false, if_true, reduceIte, Bool.false_eq_true] at e46 e45)
      all_goals (go_simp; first | exact hK.out undef _ hS (Below.refl _ _) rfl _ (by (try simp only [e46, e45]); rfl) | (go_at_call 14; (with_reducible refine (HC1.out _ hS.r3).mono ?_); rintro e w' ⟨rfl, hb⟩; have hS' := hS.step hb; exact HKV.out _ hS' hb rfl _ (by (try simp only [e46, e45]); rfl)))
    case o30 =>
      intro f w hS hd K hK
      obtain ⟨e45, e47, e42, -⟩ := hd
      replace e45 : f 45 = if b5 = true then .bool b0 else undef := e45
      replace e47 : f 47 = if (b5 && b0) = true then .bool b1 else undef := e47
      replace e42 : f 42 = .bool (!b5) := e42
      have HKV := Lib.hid (hK.out (.bool (b0 && b1)))
      cases b0
      all_goals cases b5
      all_goals (try simp only [Bool.true_and, Bool.false_and, Bool.and_true, Bool.and_false, Bool.true_or, Bool.false_or, Bool.or_true, Bool.or_false, Bool.not_true, Bool.not_false, if_true, reduceIte, Bool.false_eq_true] at e45 e47 e42)
      all_goals (go_simp; first | exact hK.out undef _ hS (Below.refl _ _) rfl _ (by (try simp only [e45, e47, e42]); rfl) | exact HKV.out _ hS (Below.refl _ _) rfl _ (by (try simp only [e45, e47, e42]); rfl))
    case o31 =>
      intro f w hS hd K hK
      obtain ⟨e42, e48, e38, -⟩ := hd
      replace e42 : f 42 = .bool (!b5) := e42
      replace e48 : f 48 = if b5 = true then .bool (b0 && b1) else undef := e48
      replace e38 : f 38 = .bool true := e38
      have HKV := Lib.hid (hK.out (.bool true))
      cases b5
      all_goals (try simp only [Bool.true_and, Bool.false_and, Bool.and_true, Bool.and_false, Bool.true_or, Bool.false_or, Bool.or_true, Bool.or_false, Bool.not_true, Bool.not_false, if_true, reduceIte, Bool.false_eq_true] at e42 e48 e38)
      all_goals (go_simp; first | ((try obtain ⟨rfl, rfl⟩ := H5.out rfl); exact HKV.out _ hS (Below.refl _ _) rfl _ (by (try simp only [e42, e48, e38]); rfl)))
    case o32 =>
      intro f w hS hd K hK
      obtain ⟨e38, e49, -⟩ := hd
      replace e38 : f 38 = .bool true := e38
      replace e49 : f 49 = .bool true := e49
      (go_simp; first | exact hK.out (.bool true) _ hS (Below.refl _ _) rfl _ (by (try simp only [e38, e49]); rfl))
    case o33 =>
      intro f w hS hd K hK
      obtain ⟨e50, -, -, -, -, -, -, -, -, -, -, -, -, -, -, -, -, -, -, -, -, -, -, -, -, -, -, -, -, -, -, -, -, -, -, -⟩ := hd
      replace e50 : f 50 = .bool true := e50
      (go_simp; first | exact hK.out (.bool true) _ hS (Below.refl _ _) rfl _ (by (try simp only [e50]); rfl))
    case hend =>
      intro f w hS hr
      have e2 : f 2 = .bool true := hr 33 _ _ rfl rfl
      go_wp2
      go_ret
      exact ⟨by simp [e2], hS.bel⟩
end Go.Proofs.YtgdcnmpcfoomiaaDoor.G
end
namespace Go.Proofs.YtgdcnmpcfoomiaaDoor.shapeHang
open Go Go.Proofs.YtgdcnmpcfoomiaaDoorOpen Go.ChangeShapes Go.WideShapes Go.ChangeAt Go.RowKit
open Go.ChangeMaps (open_string shut_string)
set_option linter.unusedVariables false
theorem own : ownKnob Tryd.prog.godebug = none := by kernel_rfl
theorem laidOut : laidOutB Tryd.prog = true := by kernel_rfl
def laid : List (String × DataW Unit) := [("math/bits.deBruijn32tab", Rows.laid_math_bits_deBruijn32tab), ("math/bits.deBruijn64tab", Rows.laid_math_bits_deBruijn64tab), ("internal/strconv.uint64pow10", Rows.laid_internal_strconv_uint64pow10)]
theorem laid_in : (("internal/strconv.uint64pow10", Lib.tabData .u64 Lib.pow10Tab) : String × DataW Unit) ∈ laid := by
  rw [show (Lib.tabData .u64 Lib.pow10Tab : DataW Unit) = Rows.laid_internal_strconv_uint64pow10 by kernel_rfl]
  exact List.Mem.tail _ (List.Mem.tail _ (List.Mem.head _))
theorem laid_met (os : Os) (args : Array Value) : laidMetH Tryd.prog laid ((World.laidAll Tryd.prog os laid).forCall (fun _ _ => 0) ⟨#[], args, []⟩).memory := by
  rw [Go.MakeChecks.laidMetH_plain _ _ _ (by kernel_rfl)]
  exact laidMet_laidAll args (by kernel_rfl) (by kernel_rfl)
set_option maxRecDepth 100000 in
theorem lifted (os : Os) (started : os.Started) (H : Type) (enc : TypeId × Value → H) :
    ReturnsInHanded {} Tryd.checked os 4 .any (fun w args => (Rows.shapeHangSpec.pre enc Tryd.prog Tryd.f4 [] false w args ∧ laidMetH Tryd.prog laid w) ∧ sizedMet enc Tryd.prog Tryd.f4 (OpenSpec.ofChange Rows.shapeHangSpec) false w args) (Rows.shapeHangSpec.post enc Tryd.prog Tryd.f4 false true false false) := by
  refine returnsInHanded_of_change_and (C := Tryd.checked) (X := fun w _ => laidMetH Tryd.prog laid w) (fun _ _ _ hh h => h.of_heap hh) own started (by kernel_rfl) Tryd.func4
    (ChangeSpec.witness_at (enc := enc) (C := Tryd.checked) (os := os) (X := fun w _ => laidMetH Tryd.prog laid w) false (World.laidAll Tryd.prog os laid) #[.agg #[.slice none 0 0, .slice none 0 0, .int .i64 0, .slice none 0 0]] 8 (World.laidAll_os _ _ _) (by kernel_rfl) (by kernel_rfl) (by kernel_rfl) (by kernel_rfl) (by kernel_rfl) (laid_met os _)) ?_
  intro W base args ds gs before hval0 hW hcnd hsz0 hL _
  have hsz : (DataW.weightsEach Tryd.prog (Tryd.f4.params.toList ++ Rows.shapeHangSpec.plain.varTypes Tryd.prog) (ds ++ gs)).all (· ≤ reachBytes) = true := hsz0
  have hval : ∀ (j : Nat) t v, Tryd.f4.params[j]? = some t → args[j]? = some v → Value.okWide Tryd.prog W .any base t v := hval0
  have hW' := hW
  obtain ⟨p, q, hA0, hV, rfl, hfz, hnd⟩ := hW
  have hA : DataW.TrodAll enc Tryd.prog W 0 (fun _ => true) true Tryd.f4.params.toList args.toList ds p := hA0
  rw [Tryd.params4] at hA hval hsz
  obtain ⟨v0, vs0, d0, ds0, p0, q0, hargs, rfl, rfl, h0, r0⟩ := trodAll_cons hA
  obtain ⟨rfl, rfl, rfl⟩ := trodAll_nil r0
  obtain rfl : args = #[v0] := by cases args; simp_all
  obtain ⟨rfl, rfl⟩ := trodVars_none hV
  have k0 := h0
  have lt0 : ∀ x ∈ p0, x.block < W.heap.size := by obtain ⟨m, hm⟩ := k0; exact DataW.trod_lt m _ _ _ hm
  obtain ⟨A0a, c0a, l0a, A0b, c0b, l0b, i0, A0d, c0d, l0d, rfl, ⟨hr0a, hc0a⟩, ⟨hr0b, hc0b⟩, ⟨hr0d, hc0d⟩, gin0⟩ := Go.Proofs.YtgdcnmpcfoomiaaDoor.G.open_gram (hval 0 25 v0 rfl rfl) h0 (Go.Proofs.YtgdcnmpcfoomiaaDoorOpen.weigh hsz (j := 0) rfl rfl)
  clear hA0 hval0 hsz0 hsz
  refine (Go.Proofs.YtgdcnmpcfoomiaaDoor.G.shapeHang_calls W (laid_of (by kernel_rfl) laid_in hL) _ _ l0a _ _ l0b i0 _ _ l0d gin0 hc0a hc0b hc0d hr0a hr0b hr0d).mono fun e W' hpost => ?_
  obtain ⟨he, bel⟩ : e = .returned (.bool true) ∧ Below W.heap.size W W' := hpost
  subst he
  exact ⟨_, rfl, _, _, _, [], _, [], hW', trodAll_mk1 (shut_bool Tryd.underlying4 _), (trodAll_cons_mk (Below.trod laidOut (by kernel_rfl) (of_decide_eq_true (by kernel_rfl)) k0 bel lt0) trodAll_mk0), rfl, bel.frame _, fun h => by cases h⟩
theorem over : Rows.ShapeHangSaid :=
  OpenClaim.holds_of_wide 4 Tryd.f4 rfl rfl rfl rfl rfl rfl rfl ⟨rfl, rfl, rfl, rfl, rfl⟩ rfl rfl rfl rfl rfl (by kernel_rfl) Tryd.func4 (by kernel_rfl)
    (of_decide_eq_true (by kernel_rfl)) (by unfold Func.isWrapper; first | (rw [if_pos (by decide +kernel)]; kernel_rfl) | (rw [if_neg (by decide +kernel)]; exact ⟨rfl, rfl⟩))
    (fun os started H enc _ => lifted os started H enc)
theorem carded : Rows.ShapeHangCardSaid :=
  Claim7.holds_tied_plain_at .later [] [.data, .data, .data] true (true, "dbcb39fb42b103b2db4ac0b36b29ec61e8607bd03254c021b0261db2afc69120") false
    over (fun _ h => by cases h) (by kernel_rfl) (fun _ h => by cases h) shapeHang_row_tie rfl ⟨rfl, rfl⟩ (by kernel_rfl) rfl
    (fun f fn hf hfn => by
      obtain rfl : f = 4 := Option.some.inj ((show Tryd.prog.funcNamed Rows.shapeHangRow.func = some 4 by kernel_rfl).symm.trans hf) |>.symm
      obtain rfl : fn = Tryd.f4 := (Option.some.inj (Tryd.func4.symm.trans hfn)).symm
      exact ⟨by kernel_rfl, fun j t ht => by
        rw [Tryd.params4] at ht
        rcases j with _ | j
        · obtain rfl : t = 25 := by simpa using ht.symm
          exact (show Tryd.prog.wantsStandIn 25 = false by kernel_rfl)
        simp at ht⟩)
    (by kernel_rfl)
#print axioms carded
end Go.Proofs.YtgdcnmpcfoomiaaDoor.shapeHang
namespace Go.Proofs.YtgdcnmpcfoomiaaDoor
theorem shapeHang_holds : Rows.ShapeHangCardSaid := shapeHang.carded
end Go.Proofs.YtgdcnmpcfoomiaaDoor
