/- A statement of the set, proved for every input: part 6 of 6 of its proof, packed by a program of this session out of the texts GLaw111, GLaw112, CornP, LCornerRow. -/
import Derived.Test.YtgdcnmpcfoomiaaDoorZCR4
import Derived.Test.YtgdcnmpcfoomiaaDoorRows
import Derived.Test.YtgdcnmpcfoomiaaDoorTie
import Derived.Test.YtgdcnmpcfoomiaaDoorCards
import Derived.WalkKit
import Derived.ProofKit
import Derived.OpenShut
import Derived.ShutString
import Derived.ChangeOld
import Derived.ChangeVars
import Derived.ChangeSame
import Derived.JoinedOf
import Derived.Below
import Derived.SizedLaws
import Derived.Handed
import Derived.LaidLaws
import Derived.LaidHandle
import Derived.Lay
import Derived.MakeChecks
import Derived.Stop.Joined
import Derived.SevenTiedAt
section
namespace Go.Proofs.YtgdcnmpcfoomiaaDoor.G
open Go.RowKit Go.Proofs.YtgdcnmpcfoomiaaDoorW.PrintWords Go.Proofs.YtgdcnmpcfoomiaaDoorW.PrintLast Go.Proofs.YtgdcnmpcfoomiaaDoorW.PrintMore
attribute [local go_sem] max2_int min2_int max_two min_two max_three min_three max_four min_four
attribute [local go_sem] Go.Proofs.YtgdcnmpcfoomiaaDoorOwn.isSome_setCell
set_option linter.unusedVariables false
set_option linter.unusedSimpArgs false
def wickerlaw11_Awake.f (k : Nat)  : Option (Bool) := (some (([(⟨#[83]⟩ : ByteArray), (⟨#[65]⟩ : ByteArray)] : List ByteArray) : List ByteArray)).bind fun y375 => ((some (([(⟨#[97]⟩ : ByteArray)] : List ByteArray) : List ByteArray)).bind fun y378 => ((some (([(⟨0, (([1, (-1)] : List Int))⟩ : S35), (⟨1, (([0] : List Int))⟩ : S35)] : List (S35)) : List (S35))).bind fun y387 => ((wickerlaw02_Awake.f k).bind fun t391 => (if t391 = true then ((corner_Turns.f k y375 y378 0 y387).bind fun t392 => (if (t392.length : Int) = 2 then ((corner_Own.f k y375 y378 0 y387 0).bind fun t395 => (if t395 = true then (some false) else ((corner_Straight.f k y375 y378 0 y387).bind fun t396 => (some (!t396))))) else (some false))) else (some false)))))
theorem wickerlaw11_Awake.mono : ∀ k, LeO (wickerlaw11_Awake.f k ) (wickerlaw11_Awake.f (k + 1) ) := by
 intro  k
 unfold wickerlaw11_Awake.f
 repeat' first
   | (with_reducible exact corner_Own.mono _ _ _ _ _ _)
   | (with_reducible exact corner_Straight.mono _ _ _ _ _)
   | (with_reducible exact corner_Turns.mono _ _ _ _ _)
   | (with_reducible exact wickerlaw02_Awake.mono _)
   | (with_reducible exact LeO.refl _)
   | (with_reducible exact LeO.none _)
   | (with_reducible refine LeO.ite ?_ ?_)
   | (with_reducible refine LeO.bind ?_ (fun _ => ?_))
   | exact corner_Own.mono _ _ _ _ _ _
   | exact corner_Straight.mono _ _ _ _ _
   | exact corner_Turns.mono _ _ _ _ _
   | exact wickerlaw02_Awake.mono _
   | exact LeO.none _
   | refine LeO.ite ?_ ?_
   | refine LeO.bind ?_ (fun _ => ?_)
set_option maxHeartbeats 8000000 in
set_option maxRecDepth 100000 in
theorem wickerlaw11_Awake.calls (k : Nat)  (r : Bool) (w : World) (hG : Laid w) (h : wickerlaw11_Awake.f k  = some r) :
  Calls Tryd.prog 35 #[] w fun e w' => e = .returned (.bool r) ∧ Below w.heap.size w w' := by
 have hu35 := Tryd.underlying35
 have hu25 := Tryd.underlying25
 have HG := Aside0.mk hG
 clear hG
 have HB := Aside0.mk (Below.refl w.heap.size w)
 have H : ((some (([(⟨#[83]⟩ : ByteArray), (⟨#[65]⟩ : ByteArray)] : List ByteArray) : List ByteArray)).bind fun y375 => ((some (([(⟨#[97]⟩ : ByteArray)] : List ByteArray) : List ByteArray)).bind fun y378 => ((some (([(⟨0, (([1, (-1)] : List Int))⟩ : S35), (⟨1, (([0] : List Int))⟩ : S35)] : List (S35)) : List (S35))).bind fun y387 => ((wickerlaw02_Awake.f k).bind fun t391 => (if t391 = true then ((corner_Turns.f k y375 y378 0 y387).bind fun t392 => (if (t392.length : Int) = 2 then ((corner_Own.f k y375 y378 0 y387 0).bind fun t395 => (if t395 = true then (some false) else ((corner_Straight.f k y375 y378 0 y387).bind fun t396 => (some (!t396))))) else (some false))) else (some false)))))) = some r := h
 clear h
 obtain ⟨y375, hy375⟩ : ∃ y_ : List ByteArray, y_ = (([(⟨#[83]⟩ : ByteArray), (⟨#[65]⟩ : ByteArray)] : List ByteArray)) := ⟨_, rfl⟩
 replace H : ((some (([(⟨#[97]⟩ : ByteArray)] : List ByteArray) : List ByteArray)).bind fun y378 => ((some (([(⟨0, (([1, (-1)] : List Int))⟩ : S35), (⟨1, (([0] : List Int))⟩ : S35)] : List (S35)) : List (S35))).bind fun y387 => ((wickerlaw02_Awake.f k).bind fun t391 => (if t391 = true then ((corner_Turns.f k y375 y378 0 y387).bind fun t392 => (if (t392.length : Int) = 2 then ((corner_Own.f k y375 y378 0 y387 0).bind fun t395 => (if t395 = true then (some false) else ((corner_Straight.f k y375 y378 0 y387).bind fun t396 => (some (!t396))))) else (some false))) else (some false))))) = some r := by first | (rw [hy375]; with_reducible exact H) | (have H2_ := (Option.bind_some _ _).symm.trans H; rw [hy375]; with_reducible exact H2_) | (have H2_ := (Option.bind_some _ _).symm.trans H; with_reducible exact H2_) | with_reducible exact H | (rw [hy375]; exact H) | exact H
 have Ny375 := Aside0.mk hy375
 clear hy375
 obtain ⟨y378, hy378⟩ : ∃ y_ : List ByteArray, y_ = (([(⟨#[97]⟩ : ByteArray)] : List ByteArray)) := ⟨_, rfl⟩
 replace H : ((some (([(⟨0, (([1, (-1)] : List Int))⟩ : S35), (⟨1, (([0] : List Int))⟩ : S35)] : List (S35)) : List (S35))).bind fun y387 => ((wickerlaw02_Awake.f k).bind fun t391 => (if t391 = true then ((corner_Turns.f k y375 y378 0 y387).bind fun t392 => (if (t392.length : Int) = 2 then ((corner_Own.f k y375 y378 0 y387 0).bind fun t395 => (if t395 = true then (some false) else ((corner_Straight.f k y375 y378 0 y387).bind fun t396 => (some (!t396))))) else (some false))) else (some false)))) = some r := by first | (rw [hy378]; with_reducible exact H) | (have H2_ := (Option.bind_some _ _).symm.trans H; rw [hy378]; with_reducible exact H2_) | (have H2_ := (Option.bind_some _ _).symm.trans H; with_reducible exact H2_) | with_reducible exact H | (rw [hy378]; exact H) | exact H
 have Ny378 := Aside0.mk hy378
 clear hy378
 obtain ⟨y381, hy381⟩ : ∃ y_ : List Int, y_ = (([1, (-1)] : List Int)) := ⟨_, rfl⟩
 replace H : ((some (([(⟨0, y381⟩ : S35), (⟨1, (([0] : List Int))⟩ : S35)] : List (S35)) : List (S35))).bind fun y387 => ((wickerlaw02_Awake.f k).bind fun t391 => (if t391 = true then ((corner_Turns.f k y375 y378 0 y387).bind fun t392 => (if (t392.length : Int) = 2 then ((corner_Own.f k y375 y378 0 y387 0).bind fun t395 => (if t395 = true then (some false) else ((corner_Straight.f k y375 y378 0 y387).bind fun t396 => (some (!t396))))) else (some false))) else (some false)))) = some r := by first | (rw [hy381]; with_reducible exact H) | (have H2_ := (Option.bind_some _ _).symm.trans H; rw [hy381]; with_reducible exact H2_) | (have H2_ := (Option.bind_some _ _).symm.trans H; with_reducible exact H2_) | with_reducible exact H | (rw [hy381]; exact H) | exact H
 have Ny381 := Aside0.mk hy381
 clear hy381
 obtain ⟨y384, hy384⟩ : ∃ y_ : List Int, y_ = (([0] : List Int)) := ⟨_, rfl⟩
 replace H : ((some (([(⟨0, y381⟩ : S35), (⟨1, y384⟩ : S35)] : List (S35)) : List (S35))).bind fun y387 => ((wickerlaw02_Awake.f k).bind fun t391 => (if t391 = true then ((corner_Turns.f k y375 y378 0 y387).bind fun t392 => (if (t392.length : Int) = 2 then ((corner_Own.f k y375 y378 0 y387 0).bind fun t395 => (if t395 = true then (some false) else ((corner_Straight.f k y375 y378 0 y387).bind fun t396 => (some (!t396))))) else (some false))) else (some false)))) = some r := by first | (rw [hy384]; with_reducible exact H) | (have H2_ := (Option.bind_some _ _).symm.trans H; rw [hy384]; with_reducible exact H2_) | (have H2_ := (Option.bind_some _ _).symm.trans H; with_reducible exact H2_) | with_reducible exact H | (rw [hy384]; exact H) | exact H
 have Ny384 := Aside0.mk hy384
 clear hy384
 obtain ⟨y387, hy387⟩ : ∃ y_ : List (S35), y_ = (([(⟨0, y381⟩ : S35), (⟨1, y384⟩ : S35)] : List (S35))) := ⟨_, rfl⟩
 replace H : ((wickerlaw02_Awake.f k).bind fun t391 => (if t391 = true then ((corner_Turns.f k y375 y378 0 y387).bind fun t392 => (if (t392.length : Int) = 2 then ((corner_Own.f k y375 y378 0 y387 0).bind fun t395 => (if t395 = true then (some false) else ((corner_Straight.f k y375 y378 0 y387).bind fun t396 => (some (!t396))))) else (some false))) else (some false))) = some r := by first | (rw [hy387]; with_reducible exact H) | (have H2_ := (Option.bind_some _ _).symm.trans H; rw [hy387]; with_reducible exact H2_) | (have H2_ := (Option.bind_some _ _).symm.trans H; with_reducible exact H2_) | with_reducible exact H | (rw [hy387]; exact H) | exact H
 have Ny387 := Aside0.mk hy387
 clear hy387
 replace H := Option.bind_eq_some_iff.mp H
 obtain ⟨t391, A10, H⟩ := H
 replace H : (if t391 = true then ((corner_Turns.f k y375 y378 0 y387).bind fun t392 => (if (t392.length : Int) = 2 then ((corner_Own.f k y375 y378 0 y387 0).bind fun t395 => (if t395 = true then (some false) else ((corner_Straight.f k y375 y378 0 y387).bind fun t396 => (some (!t396))))) else (some false))) else (some false)) = some r := H
 have A1 := Aside0.mk A10
 clear A10
 by_cases c2 : t391 = true
 ·subst c2
  have H1 : ((corner_Turns.f k y375 y378 0 y387).bind fun t392 => (if (t392.length : Int) = 2 then ((corner_Own.f k y375 y378 0 y387 0).bind fun t395 => (if t395 = true then (some false) else ((corner_Straight.f k y375 y378 0 y387).bind fun t396 => (some (!t396))))) else (some false))) = some r := by rw [if_pos rfl] at H; exact H
  clear H
  have H := H1
  clear H1
  replace H := Option.bind_eq_some_iff.mp H
  obtain ⟨t392, A30, H⟩ := H
  replace H : (if (t392.length : Int) = 2 then ((corner_Own.f k y375 y378 0 y387 0).bind fun t395 => (if t395 = true then (some false) else ((corner_Straight.f k y375 y378 0 y387).bind fun t396 => (some (!t396))))) else (some false)) = some r := H
  have A3 := Aside0.mk A30
  clear A30
  by_cases c4 : (t392.length : Int) = 2
  ·rw [if_pos c4] at H
   have c4b0 : ((t392.length : Int) == 2) = true := beq_iff_eq.mpr c4
   have c4b1 : ((t392.length : Int) != 2) = false := bne_eq_false_iff_eq.mpr c4
   clear c4
   replace H := Option.bind_eq_some_iff.mp H
   obtain ⟨t395, A50, H⟩ := H
   replace H : (if t395 = true then (some false) else ((corner_Straight.f k y375 y378 0 y387).bind fun t396 => (some (!t396)))) = some r := H
   have A5 := Aside0.mk A50
   clear A50
   by_cases c6 : t395 = true
   ·subst c6
    have H1 : (some false) = some r := by rw [if_pos rfl] at H; exact H
    clear H
    have H := H1
    clear H1
    obtain rfl := Option.some.inj H
    go_enter Tryd.func35, Tryd.ntmps35
    go_wp2_with (first | ((with_reducible refine gate_dst (N := 2) rfl ?_); (try (refine gate_guard (by rfl) ?_; dsimp only)); refine Kd.R_lit Kd.string _ 9 ?hg (N := 2) ?hd (xs := ([(⟨#[83]⟩ : ByteArray), (⟨#[65]⟩ : ByteArray)] : List ByteArray)) (inner := [.string (⟨#[83]⟩ : ByteArray), .string (⟨#[65]⟩ : ByteArray)]) (ok := fun _ => True) (okp := fun _ => True) ?hr ?hp (fun _ hk => hk) trivial (Below.refl _ _) (Nat.le_refl _) (by simp) ?_; (case hd => rfl); (case hg => rfl); (case hr => first | (go_simp; done) | (go_simp; rfl)); (case hp => exact (Reps.one (show Kd.M Kd.string _ _ _ (⟨#[83]⟩ : ByteArray) [.string (⟨#[83]⟩ : ByteArray)] from rfl) (Reps.one (show Kd.M Kd.string _ _ _ (⟨#[65]⟩ : ByteArray) [.string (⟨#[65]⟩ : ByteArray)] from rfl) (Reps.none _ _)))); intro v376 w7 ho8 hb hg_ hnew_; clear hg_ hnew_; (first | rw [← Ny375.out] at ho8 | (simp only [Int.reduceToNat] at ho8; rw [← Ny375.out] at ho8)); have n0_ := Aside0.mk (Kd.R_lower ho8 (below_size (by repeat (first | (with_reducible first | exact HB.out | apply below_alloc | apply pw_below_drewN | apply below_drew1) | exact HB.out)))); have n1_ := Aside0.mk (below_step (by repeat (first | (with_reducible first | exact HB.out | apply below_alloc | apply pw_below_drewN | apply below_drew1) | exact HB.out)) hb); clear HB; have HO377 := n0_; have HB := n1_; clear n0_ n1_; clear hb ho8) | ((with_reducible refine gate_dst (N := 3) rfl ?_); (try (refine gate_guard (by rfl) ?_; dsimp only)); refine Kd.R_lit Kd.string _ 9 ?hg (N := 3) ?hd (xs := ([(⟨#[97]⟩ : ByteArray)] : List ByteArray)) (inner := [.string (⟨#[97]⟩ : ByteArray)]) (ok := fun _ => True) (okp := fun _ => True) ?hr ?hp (fun _ hk => hk) trivial (Below.refl _ _) (Nat.le_refl _) (by simp) ?_; (case hd => rfl); (case hg => rfl); (case hr => first | (go_simp; done) | (go_simp; rfl)); (case hp => exact (Reps.one (show Kd.M Kd.string _ _ _ (⟨#[97]⟩ : ByteArray) [.string (⟨#[97]⟩ : ByteArray)] from rfl) (Reps.none _ _))); intro v379 w9 ho10 hb hg_ hnew_; clear hg_ hnew_; (first | rw [← Ny378.out] at ho10 | (simp only [Int.reduceToNat] at ho10; rw [← Ny378.out] at ho10)); have n0_ := Aside0.mk (Kd.R_elder' (by (with_reducible repeat (first | apply Kd.R_alloc | apply Kd.R_drewN | apply Kd.R_drew)); exact HO377.out) (Kd.R_base ho10) hb); have n1_ := Aside0.mk (Kd.R_lower (Kd.R_new' ho10 (Kd.R_lt (by (with_reducible repeat (first | apply Kd.R_alloc | apply Kd.R_drewN | apply Kd.R_drew)); exact HO377.out))) (below_size (by repeat (first | (with_reducible first | exact HB.out | apply below_alloc | apply pw_below_drewN | apply below_drew1) | exact HB.out)))); have n2_ := Aside0.mk (below_step (by repeat (first | (with_reducible first | exact HB.out | apply below_alloc | apply pw_below_drewN | apply below_drew1) | exact HB.out)) hb); clear HO377; clear HB; have HO377 := n0_; have HO380 := n1_; have HB := n2_; clear n0_ n1_ n2_; clear hb ho10) | ((with_reducible refine gate_dst (N := 4) rfl ?_); (try (refine gate_guard (by rfl) ?_; dsimp only)); refine Kd.R_lit (Kd.int .i64) _ 55 ?hg (N := 4) ?hd (xs := ([1, (-1)] : List Int)) (inner := [.int .i64 1, .int .i64 (-1)]) (ok := fun _ => True) (okp := fun _ => True) ?hr ?hp (fun _ hk => hk) trivial (Below.refl _ _) (Nat.le_refl _) (by simp) ?_; (case hd => rfl); (case hg => rfl); (case hr => first | (go_simp; done) | (go_simp; rfl)); (case hp => exact (Reps.one (show Kd.M (Kd.int .i64) _ _ _ 1 [.int .i64 1] from rfl) (Reps.one (show Kd.M (Kd.int .i64) _ _ _ (-1) [.int .i64 (-1)] from rfl) (Reps.none _ _)))); intro v382 w11 ho12 hb hg_ hnew_; clear hg_ hnew_; (first | rw [← Ny381.out] at ho12 | (simp only [Int.reduceToNat] at ho12; rw [← Ny381.out] at ho12)); have n0_ := Aside0.mk (Kd.R_below (by (with_reducible repeat (first | apply Kd.R_alloc | apply Kd.R_drewN | apply Kd.R_drew)); exact HO377.out) hb); have n1_ := Aside0.mk (Kd.R_below (by (with_reducible repeat (first | apply Kd.R_alloc | apply Kd.R_drewN | apply Kd.R_drew)); exact HO380.out) hb); have n2_ := Aside0.mk (Kd.R_lower ho12 (below_size (by repeat (first | (with_reducible first | exact HB.out | apply below_alloc | apply pw_below_drewN | apply below_drew1) | exact HB.out)))); have n3_ := Aside0.mk (below_step (by repeat (first | (with_reducible first | exact HB.out | apply below_alloc | apply pw_below_drewN | apply below_drew1) | exact HB.out)) hb); clear HO377; clear HO380; clear HB; have HO377 := n0_; have HO380 := n1_; have HO383 := n2_; have HB := n3_; clear n0_ n1_ n2_ n3_; clear hb ho12; obtain ⟨Ao13, co13, eo13⟩ := Kd.R_slice HO383.out; subst eo13) | ((with_reducible refine gate_dst (N := 6) rfl ?_); (try (refine gate_guard (by rfl) ?_; dsimp only)); refine Kd.R_lit (Kd.int .i64) _ 55 ?hg (N := 6) ?hd (xs := ([0] : List Int)) (inner := [.int .i64 0]) (ok := fun _ => True) (okp := fun _ => True) ?hr ?hp (fun _ hk => hk) trivial (Below.refl _ _) (Nat.le_refl _) (by simp) ?_; (case hd => rfl); (case hg => rfl); (case hr => first | (go_simp; done) | (go_simp; rfl)); (case hp => exact (Reps.one (show Kd.M (Kd.int .i64) _ _ _ 0 [.int .i64 0] from rfl) (Reps.none _ _))); intro v385 w14 ho15 hb hg_ hnew_; clear hg_ hnew_; (first | rw [← Ny384.out] at ho15 | (simp only [Int.reduceToNat] at ho15; rw [← Ny384.out] at ho15)); have n0_ := Aside0.mk (Kd.R_below (by (with_reducible repeat (first | apply Kd.R_alloc | apply Kd.R_drewN | apply Kd.R_drew)); exact HO377.out) hb); have n1_ := Aside0.mk (Kd.R_below (by (with_reducible repeat (first | apply Kd.R_alloc | apply Kd.R_drewN | apply Kd.R_drew)); exact HO380.out) hb); have n2_ := Aside0.mk (Kd.R_elder' (by (with_reducible repeat (first | apply Kd.R_alloc | apply Kd.R_drewN | apply Kd.R_drew)); exact HO383.out) (Kd.R_base ho15) hb); have n3_ := Aside0.mk (Kd.R_lower (Kd.R_new' ho15 (Kd.R_lt (by (with_reducible repeat (first | apply Kd.R_alloc | apply Kd.R_drewN | apply Kd.R_drew)); exact HO383.out))) (below_size (by repeat (first | (with_reducible first | exact HB.out | apply below_alloc | apply pw_below_drewN | apply below_drew1) | exact HB.out)))); have n4_ := Aside0.mk (below_step (by repeat (first | (with_reducible first | exact HB.out | apply below_alloc | apply pw_below_drewN | apply below_drew1) | exact HB.out)) hb); clear HO377; clear HO380; clear HO383; clear HB; have HO377 := n0_; have HO380 := n1_; have HO383 := n2_; have HO386 := n3_; have HB := n4_; clear n0_ n1_ n2_ n3_ n4_; clear hb ho15; obtain ⟨Ao16, co16, eo16⟩ := Kd.R_slice HO386.out; subst eo16) | ((with_reducible refine gate_dst (N := 8) rfl ?_); (try (refine gate_guard (by rfl) ?_; dsimp only)); refine Kd.N_lit k35 _ 35 ?hg (N' := 8) ?hd (xs := ([(⟨0, y381⟩ : S35), (⟨1, y384⟩ : S35)] : List (S35))) (inner := [.int .i64 0, .slice Ao13 y381.length co13, .int .i64 1, .slice Ao16 y384.length co16]) (ok := (fun k_ => some k_ ≠ (v376 : Value).ownBlock ∧ some k_ ≠ (v379 : Value).ownBlock)) (okp := (fun k_ => some k_ ≠ (v376 : Value).ownBlock ∧ some k_ ≠ (v379 : Value).ownBlock)) ?hr ?hp (fun _ hk => hk) ((show ∀ k_, w14.heap.size ≤ k_ → (fun k_ => some k_ ≠ (v376 : Value).ownBlock ∧ some k_ ≠ (v379 : Value).ownBlock) k_ from fun k_ hk => ⟨Kd.fresh' (Kd.R_lt (by (with_reducible repeat (first | apply Kd.R_alloc | apply Kd.R_drewN | apply Kd.R_drew)); exact HO377.out)) k_ hk, Kd.fresh' (Kd.R_lt (by (with_reducible repeat (first | apply Kd.R_alloc | apply Kd.R_drewN | apply Kd.R_drew)); exact HO380.out)) k_ hk⟩) _ (Nat.le_refl _)) (Below.refl _ _) (Nat.le_refl _) (by simp) ?_; (case hd => rfl); (case hg => rfl); (case hr => first | (go_simp; done) | (go_simp; rfl)); (case hp => exact (Reps.c2 (show Kd.FK k35 _ _ (⟨0, y381⟩ : S35) [.int .i64 0, .slice Ao13 y381.length co13] from (k35_mkF _ _ (⟨0, y381⟩ : S35) (Kd.R_reads' (Kd.R_mono (ok' := (fun k_ => some k_ ≠ (v376 : Value).ownBlock ∧ some k_ ≠ (v379 : Value).ownBlock)) (Kd.R_apart' (Kd.R_apart' (HO383.out) (Kd.R_typed HO377.out) (by decide)) (Kd.R_typed HO380.out) (by decide)) (fun k_ hk => ⟨hk.1.2, hk.2⟩))).2.1 (Kd.R_F (Kd.R_mono (ok' := (fun k_ => some k_ ≠ (v376 : Value).ownBlock ∧ some k_ ≠ (v379 : Value).ownBlock)) (Kd.R_apart' (Kd.R_apart' (HO383.out) (Kd.R_typed HO377.out) (by decide)) (Kd.R_typed HO380.out) (by decide)) (fun k_ hk => ⟨hk.1.2, hk.2⟩))))) (Reps.c2 (show Kd.FK k35 _ _ (⟨1, y384⟩ : S35) [.int .i64 1, .slice Ao16 y384.length co16] from (k35_mkF _ _ (⟨1, y384⟩ : S35) (Kd.R_reads' (Kd.R_mono (ok' := (fun k_ => some k_ ≠ (v376 : Value).ownBlock ∧ some k_ ≠ (v379 : Value).ownBlock)) (Kd.R_apart' (Kd.R_apart' (HO386.out) (Kd.R_typed HO377.out) (by decide)) (Kd.R_typed HO380.out) (by decide)) (fun k_ hk => ⟨hk.1.2, hk.2⟩))).2.1 (Kd.R_F (Kd.R_mono (ok' := (fun k_ => some k_ ≠ (v376 : Value).ownBlock ∧ some k_ ≠ (v379 : Value).ownBlock)) (Kd.R_apart' (Kd.R_apart' (HO386.out) (Kd.R_typed HO377.out) (by decide)) (Kd.R_typed HO380.out) (by decide)) (fun k_ hk => ⟨hk.1.2, hk.2⟩))))) (Reps.none _ _)))); intro v388 w17 ho18 hb hg_ hnew_; clear hg_ hnew_; (first | rw [← Ny387.out] at ho18 | (simp only [Int.reduceToNat] at ho18; rw [← Ny387.out] at ho18)); have n0_ := Aside0.mk (Kd.R_below (by (with_reducible repeat (first | apply Kd.R_alloc | apply Kd.R_drewN | apply Kd.R_drew)); exact HO377.out) hb); have n1_ := Aside0.mk (Kd.R_below (by (with_reducible repeat (first | apply Kd.R_alloc | apply Kd.R_drewN | apply Kd.R_drew)); exact HO380.out) hb); have n2_ := Aside0.mk (Kd.N_lower ho18 (below_size (by repeat (first | (with_reducible first | exact HB.out | apply below_alloc | apply pw_below_drewN | apply below_drew1) | exact HB.out)))); have n3_ := Aside0.mk (below_step (by repeat (first | (with_reducible first | exact HB.out | apply below_alloc | apply pw_below_drewN | apply below_drew1) | exact HB.out)) hb); clear HO377; clear HO380; clear HB; clear HO383; clear HO386; have HO377 := n0_; have HO380 := n1_; have HO389 := n2_; have HB := n3_; clear n0_ n1_ n2_ n3_; clear hb ho18; obtain ⟨Ao19, co19, eo19⟩ := Kd.N_slice HO389.out; subst eo19; obtain ⟨Ao20, co20, eo20⟩ := Kd.R_slice HO380.out; subst eo20; obtain ⟨Ao21, co21, eo21⟩ := Kd.R_slice HO377.out; subst eo21) | ((with_reducible refine gate_dst (N := 1) rfl ?_); (try (refine gate_guard (by rfl) ?_; dsimp only)); refine box_event ?hg (N := 1) ?hd (cs := #[.slice none 0 0, .slice none 0 0, .int .i64 0, .slice none 0 0]) (t := 25) ?hr ?_; (case hd => rfl); (case hg => rfl); (case hr => first | (go_simp; done) | (go_simp; rfl)); intro gb390 hg w22 hbox hb; have n0_ := Aside0.mk (Kd.R_below (by (with_reducible repeat (first | apply Kd.R_alloc | apply Kd.R_drewN | apply Kd.R_drew)); exact HO377.out) hb); have n1_ := Aside0.mk (Kd.R_below (by (with_reducible repeat (first | apply Kd.R_alloc | apply Kd.R_drewN | apply Kd.R_drew)); exact HO380.out) hb); have n2_ := Aside0.mk (Kd.N_below (Kd.N_elderB (by (with_reducible repeat (first | apply Kd.N_alloc | apply Kd.N_drewN | apply Kd.N_drew)); exact HO389.out) gb390 (Nat.le_of_eq hg.symm)) hb); have n3_ := Aside0.mk (below_step (by repeat (first | (with_reducible first | exact HB.out | apply below_alloc | apply pw_below_drewN | apply below_drew1) | exact HB.out)) hb); have n4_ := Aside0.mk (hbox); have n5_ := Aside0.mk ((by rw [hg]; exact (below_size (by repeat (first | (with_reducible first | exact HB.out | apply below_alloc | apply pw_below_drewN | apply below_drew1) | exact HB.out))) : w.heap.size ≤ gb390)); have n6_ := Aside0.mk ((by rw [hg]; exact (below_size (by repeat (first | (with_reducible first | exact HB.out | apply below_alloc | apply pw_below_drewN | apply below_drew1) | exact HB.out))) : w.heap.size ≤ gb390)); clear HO377; clear HO380; clear HO389; clear HB; have HO377 := n0_; have HO380 := n1_; have HO389 := n2_; have HB := n3_; have BK390 := n4_; have GW390 := n5_; have GE390 := n6_; clear n0_ n1_ n2_ n3_ n4_ n5_ n6_; clear hb hbox hg; have hcz23_0 : w22.cell? ⟨gb390, 0, none⟩ = some (.slice none 0 0) := (blk_cell BK390.out 0).trans rfl; have hcz23_1 : w22.cell? ⟨gb390, 1, none⟩ = some (.slice none 0 0) := (blk_cell BK390.out 1).trans rfl; have hcz23_2 : w22.cell? ⟨gb390, 2, none⟩ = some (.int .i64 0) := (blk_cell BK390.out 2).trans rfl; have hcz23_3 : w22.cell? ⟨gb390, 3, none⟩ = some (.slice none 0 0) := (blk_cell BK390.out 3).trans rfl; have hfz23_0 := blk_frozen BK390.out 0; have hfz23_1 := blk_frozen BK390.out 1; have hfz23_2 := blk_frozen BK390.out 2; have hfz23_3 := blk_frozen BK390.out 3) | ((with_reducible refine gate_callee (f := 19) rfl ?_); refine goesL_ (some 10) rfl rfl Tryd.func19 (by kernel_rfl) rfl #[] rfl (by (try simp only [List.map_toArray, List.map_cons, List.map_nil]); first | done | rfl | (simp only [List.length_drop, List.length_take]; rfl)) ?_; (with_reducible refine (wickerlaw02_Awake.calls k  true _ ?side1 A1.out).mono ?_); (case side1 => exact Laid.below HG.out (by repeat (first | (with_reducible first | exact HB.out | apply below_alloc | apply pw_below_drewN | apply below_drew1 | refine below_set ?_ GE390.out) | exact HB.out))); rintro e w24 ⟨rfl, hb⟩; refine ⟨_, rfl, ?_⟩; have n0_ := Aside0.mk (Kd.R_below (by (with_reducible repeat (first | apply Kd.R_alloc | apply Kd.R_drewN | apply Kd.R_drew)); exact (Kd.R_mono (Kd.R_far (p := ⟨gb390, 3, none⟩) (Kd.R_far (p := ⟨gb390, 2, none⟩) (Kd.R_far (p := ⟨gb390, 1, none⟩) (Kd.R_far (p := ⟨gb390, 0, none⟩) (Kd.R_types HO377.out BK390.out (by decide)) (fun _ hk => hk.2) (.slice Ao21 y375.length co21)) (fun _ hk => hk.2) (.slice Ao20 y378.length co20)) (fun _ hk => hk.2) (.int .i64 0)) (fun _ hk => hk.2) (.slice Ao19 y387.length co19)) (fun _ h_ => h_.1))) hb); have n1_ := Aside0.mk (Kd.R_below (by (with_reducible repeat (first | apply Kd.R_alloc | apply Kd.R_drewN | apply Kd.R_drew)); exact (Kd.R_mono (Kd.R_far (p := ⟨gb390, 3, none⟩) (Kd.R_far (p := ⟨gb390, 2, none⟩) (Kd.R_far (p := ⟨gb390, 1, none⟩) (Kd.R_far (p := ⟨gb390, 0, none⟩) (Kd.R_types HO380.out BK390.out (by decide)) (fun _ hk => hk.2) (.slice Ao21 y375.length co21)) (fun _ hk => hk.2) (.slice Ao20 y378.length co20)) (fun _ hk => hk.2) (.int .i64 0)) (fun _ hk => hk.2) (.slice Ao19 y387.length co19)) (fun _ h_ => h_.1))) hb); have n2_ := Aside0.mk (Kd.N_below (by (with_reducible repeat (first | apply Kd.N_alloc | apply Kd.N_drewN | apply Kd.N_drew)); exact (Kd.N_mono (Kd.N_far (p := ⟨gb390, 3, none⟩) (Kd.N_far (p := ⟨gb390, 2, none⟩) (Kd.N_far (p := ⟨gb390, 1, none⟩) (Kd.N_far (p := ⟨gb390, 0, none⟩) (Kd.N_mono HO389.out (fun k_ hk => (⟨hk, hk.2⟩ : _ ∧ k_ ≠ gb390))) (fun _ hk => hk.2) (.slice Ao21 y375.length co21)) (fun _ hk => hk.2) (.slice Ao20 y378.length co20)) (fun _ hk => hk.2) (.int .i64 0)) (fun _ hk => hk.2) (.slice Ao19 y387.length co19)) (fun _ h_ => h_.1))) hb); have n3_ := Aside0.mk (blk_below (g := gb390) (o := .cells #[.slice Ao21 y375.length co21, .slice Ao20 y378.length co20, .int .i64 0, .slice Ao19 y387.length co19] 25 (0, 0)) (by (with_reducible repeat (first | refine blk_drewN ?_ _ | refine blk_drew ?_ | refine blk_alloc ?_ _)); refine blk_put (cs := #[.slice Ao21 y375.length co21, .slice Ao20 y378.length co20, .int .i64 0, .slice none 0 0]) ?_ 3 _ rfl; (with_reducible repeat (first | refine blk_drewN ?_ _ | refine blk_drew ?_ | refine blk_alloc ?_ _)); refine blk_put (cs := #[.slice Ao21 y375.length co21, .slice Ao20 y378.length co20, .int .i64 0, .slice none 0 0]) ?_ 2 _ rfl; (with_reducible repeat (first | refine blk_drewN ?_ _ | refine blk_drew ?_ | refine blk_alloc ?_ _)); refine blk_put (cs := #[.slice Ao21 y375.length co21, .slice none 0 0, .int .i64 0, .slice none 0 0]) ?_ 1 _ rfl; (with_reducible repeat (first | refine blk_drewN ?_ _ | refine blk_drew ?_ | refine blk_alloc ?_ _)); refine blk_put (cs := #[.slice none 0 0, .slice none 0 0, .int .i64 0, .slice none 0 0]) ?_ 0 _ rfl; (with_reducible repeat (first | refine blk_drewN ?_ _ | refine blk_drew ?_ | refine blk_alloc ?_ _)); exact BK390.out) hb); have n4_ := Aside0.mk (below_step (by repeat (first | (with_reducible first | exact HB.out | apply below_alloc | apply pw_below_drewN | apply below_drew1 | refine below_set ?_ GE390.out) | exact HB.out)) hb); clear HO377; clear HO380; clear HO389; clear BK390; clear HB; have HO377 := n0_; have HO380 := n1_; have HO389 := n2_; have BK390 := n3_; have HB := n4_; clear n0_ n1_ n2_ n3_ n4_; (try clear hb); (try clear hb2); (try clear hk); (try clear hi); have hcz25_0 : w24.cell? ⟨gb390, 0, none⟩ = some (.slice Ao21 y375.length co21) := (blk_cell BK390.out 0).trans rfl; have hcz25_1 : w24.cell? ⟨gb390, 1, none⟩ = some (.slice Ao20 y378.length co20) := (blk_cell BK390.out 1).trans rfl; have hcz25_2 : w24.cell? ⟨gb390, 2, none⟩ = some (.int .i64 0) := (blk_cell BK390.out 2).trans rfl; have hcz25_3 : w24.cell? ⟨gb390, 3, none⟩ = some (.slice Ao19 y387.length co19) := (blk_cell BK390.out 3).trans rfl; have hfz25_0 := blk_frozen BK390.out 0; have hfz25_1 := blk_frozen BK390.out 1; have hfz25_2 := blk_frozen BK390.out 2; have hfz25_3 := blk_frozen BK390.out 3) | (go_at_call 65; (with_reducible refine (corner_Turns.calls k _ _ y375 _ _ y378 0 _ _ y387 t392 _ ?side1 ?side2 ?side3 ?side4 ?side5 ?side6 ?side7 A3.out).mono ?_); (case side1 => exact Laid.below HG.out (by repeat (first | (with_reducible first | exact HB.out | apply below_alloc | apply pw_below_drewN | apply below_drew1 | refine below_set ?_ GE390.out) | exact HB.out))); (case side2 => repeat (first | exact (Kd.R_reads' HO377.out).2.2 | (with_reducible refine Kd.C_alloc ?_ _) | (with_reducible refine Kd.C_drewN ?_ _) | (with_reducible refine Kd.C_drew ?_))); (case side3 => exact (Kd.R_reads' HO377.out).2.1); (case side4 => repeat (first | exact (Kd.R_reads' HO380.out).2.2 | (with_reducible refine Kd.C_alloc ?_ _) | (with_reducible refine Kd.C_drewN ?_ _) | (with_reducible refine Kd.C_drew ?_))); (case side5 => exact (Kd.R_reads' HO380.out).2.1); (case side6 => repeat (first | exact (Kd.N_reads' HO389.out).2.2 | (with_reducible refine Kd.C_alloc ?_ _) | (with_reducible refine Kd.C_drewN ?_ _) | (with_reducible refine Kd.C_drew ?_))); (case side7 => exact (Kd.N_reads' HO389.out).2.1); rintro e w26 ⟨v393, rfl, ho0, hb⟩; have n0_ := Aside0.mk (Kd.R_below (by (with_reducible repeat (first | apply Kd.R_alloc | apply Kd.R_drewN | apply Kd.R_drew)); exact HO377.out) hb); have n1_ := Aside0.mk (Kd.R_below (by (with_reducible repeat (first | apply Kd.R_alloc | apply Kd.R_drewN | apply Kd.R_drew)); exact HO380.out) hb); have n2_ := Aside0.mk (Kd.N_elder' (by (with_reducible repeat (first | apply Kd.N_alloc | apply Kd.N_drewN | apply Kd.N_drew)); exact HO389.out) (Kd.R_base ho0) hb); have n3_ := Aside0.mk (Kd.R_lower ho0 (below_size (by repeat (first | (with_reducible first | exact HB.out | apply below_alloc | apply pw_below_drewN | apply below_drew1 | refine below_set ?_ GE390.out) | exact HB.out)))); have n4_ := Aside0.mk (blk_below (g := gb390) (o := .cells #[.slice Ao21 y375.length co21, .slice Ao20 y378.length co20, .int .i64 0, .slice Ao19 y387.length co19] 25 (0, 0)) (by (with_reducible repeat (first | refine blk_drewN ?_ _ | refine blk_drew ?_ | refine blk_alloc ?_ _)); exact BK390.out) hb); have n5_ := Aside0.mk (below_step (by repeat (first | (with_reducible first | exact HB.out | apply below_alloc | apply pw_below_drewN | apply below_drew1 | refine below_set ?_ GE390.out) | exact HB.out)) hb); clear HO377; clear HO380; clear HO389; clear BK390; clear HB; have HO377 := n0_; have HO380 := n1_; have HO389 := n2_; have HO394 := n3_; have BK390 := n4_; have HB := n5_; clear n0_ n1_ n2_ n3_ n4_ n5_; (try clear hb); (try clear hb2); (try clear hk); (try clear hi); (try clear ho0); obtain ⟨Ao27, co27, eo27⟩ := Kd.R_slice HO394.out; subst eo27; have hcz28_0 : w26.cell? ⟨gb390, 0, none⟩ = some (.slice Ao21 y375.length co21) := (blk_cell BK390.out 0).trans rfl; have hcz28_1 : w26.cell? ⟨gb390, 1, none⟩ = some (.slice Ao20 y378.length co20) := (blk_cell BK390.out 1).trans rfl; have hcz28_2 : w26.cell? ⟨gb390, 2, none⟩ = some (.int .i64 0) := (blk_cell BK390.out 2).trans rfl; have hcz28_3 : w26.cell? ⟨gb390, 3, none⟩ = some (.slice Ao19 y387.length co19) := (blk_cell BK390.out 3).trans rfl; have hfz28_0 := blk_frozen BK390.out 0; have hfz28_1 := blk_frozen BK390.out 1; have hfz28_2 := blk_frozen BK390.out 2; have hfz28_3 := blk_frozen BK390.out 3) | (go_at_call 66; (with_reducible refine (corner_Own.calls k _ _ y375 _ _ y378 0 _ _ y387 0 true _ ?side1 ?side2 ?side3 ?side4 ?side5 ?side6 ?side7 A5.out).mono ?_); (case side1 => exact Laid.below HG.out (by repeat (first | (with_reducible first | exact HB.out | apply below_alloc | apply pw_below_drewN | apply below_drew1 | refine below_set ?_ GE390.out) | exact HB.out))); (case side2 => repeat (first | exact (Kd.R_reads' HO377.out).2.2 | (with_reducible refine Kd.C_alloc ?_ _) | (with_reducible refine Kd.C_drewN ?_ _) | (with_reducible refine Kd.C_drew ?_))); (case side3 => exact (Kd.R_reads' HO377.out).2.1); (case side4 => repeat (first | exact (Kd.R_reads' HO380.out).2.2 | (with_reducible refine Kd.C_alloc ?_ _) | (with_reducible refine Kd.C_drewN ?_ _) | (with_reducible refine Kd.C_drew ?_))); (case side5 => exact (Kd.R_reads' HO380.out).2.1); (case side6 => repeat (first | exact (Kd.N_reads' HO389.out).2.2 | (with_reducible refine Kd.C_alloc ?_ _) | (with_reducible refine Kd.C_drewN ?_ _) | (with_reducible refine Kd.C_drew ?_))); (case side7 => exact (Kd.N_reads' HO389.out).2.1); rintro e w29 ⟨rfl, hb⟩; have n0_ := Aside0.mk (Kd.R_below (by (with_reducible repeat (first | apply Kd.R_alloc | apply Kd.R_drewN | apply Kd.R_drew)); exact HO377.out) hb); have n1_ := Aside0.mk (Kd.R_below (by (with_reducible repeat (first | apply Kd.R_alloc | apply Kd.R_drewN | apply Kd.R_drew)); exact HO380.out) hb); have n2_ := Aside0.mk (Kd.N_below (by (with_reducible repeat (first | apply Kd.N_alloc | apply Kd.N_drewN | apply Kd.N_drew)); exact HO389.out) hb); have n3_ := Aside0.mk (Kd.R_below (by (with_reducible repeat (first | apply Kd.R_alloc | apply Kd.R_drewN | apply Kd.R_drew)); exact HO394.out) hb); have n4_ := Aside0.mk (blk_below (g := gb390) (o := .cells #[.slice Ao21 y375.length co21, .slice Ao20 y378.length co20, .int .i64 0, .slice Ao19 y387.length co19] 25 (0, 0)) (by (with_reducible repeat (first | refine blk_drewN ?_ _ | refine blk_drew ?_ | refine blk_alloc ?_ _)); exact BK390.out) hb); have n5_ := Aside0.mk (below_step (by repeat (first | (with_reducible first | exact HB.out | apply below_alloc | apply pw_below_drewN | apply below_drew1 | refine below_set ?_ GE390.out) | exact HB.out)) hb); clear HO377; clear HO380; clear HO389; clear HO394; clear BK390; clear HB; have HO377 := n0_; have HO380 := n1_; have HO389 := n2_; have HO394 := n3_; have BK390 := n4_; have HB := n5_; clear n0_ n1_ n2_ n3_ n4_ n5_; (try clear hb); (try clear hb2); (try clear hk); (try clear hi)))
    go_ret
    exact ⟨by first | rfl | (simp [errW_none, errW_some] <;> rfl) | (simp [*, errW_none, errW_some] <;> rfl), by repeat (first | (with_reducible first | exact HB.out | apply below_alloc | apply pw_below_drewN | apply below_drew1 | refine below_set ?_ GE390.out) | exact HB.out)⟩
   ·replace c6 := Bool.eq_false_iff.mpr c6
    subst c6
    have H1 : ((corner_Straight.f k y375 y378 0 y387).bind fun t396 => (some (!t396))) = some r := by rw [if_neg (show ¬ (false = true) by decide)] at H; exact H
    clear H
    have H := H1
    clear H1
    replace H := Option.bind_eq_some_iff.mp H
    obtain ⟨t396, A300, H⟩ := H
    replace H : (some (!t396)) = some r := H
    have A30 := Aside0.mk A300
    clear A300
    obtain rfl := Option.some.inj H
    go_enter Tryd.func35, Tryd.ntmps35
    go_wp2_with (first | ((with_reducible refine gate_dst (N := 2) rfl ?_); (try (refine gate_guard (by rfl) ?_; dsimp only)); refine Kd.R_lit Kd.string _ 9 ?hg (N := 2) ?hd (xs := ([(⟨#[83]⟩ : ByteArray), (⟨#[65]⟩ : ByteArray)] : List ByteArray)) (inner := [.string (⟨#[83]⟩ : ByteArray), .string (⟨#[65]⟩ : ByteArray)]) (ok := fun _ => True) (okp := fun _ => True) ?hr ?hp (fun _ hk => hk) trivial (Below.refl _ _) (Nat.le_refl _) (by simp) ?_; (case hd => rfl); (case hg => rfl); (case hr => first | (go_simp; done) | (go_simp; rfl)); (case hp => exact (Reps.one (show Kd.M Kd.string _ _ _ (⟨#[83]⟩ : ByteArray) [.string (⟨#[83]⟩ : ByteArray)] from rfl) (Reps.one (show Kd.M Kd.string _ _ _ (⟨#[65]⟩ : ByteArray) [.string (⟨#[65]⟩ : ByteArray)] from rfl) (Reps.none _ _)))); intro v376 w31 ho32 hb hg_ hnew_; clear hg_ hnew_; (first | rw [← Ny375.out] at ho32 | (simp only [Int.reduceToNat] at ho32; rw [← Ny375.out] at ho32)); have n0_ := Aside0.mk (Kd.R_lower ho32 (below_size (by repeat (first | (with_reducible first | exact HB.out | apply below_alloc | apply pw_below_drewN | apply below_drew1) | exact HB.out)))); have n1_ := Aside0.mk (below_step (by repeat (first | (with_reducible first | exact HB.out | apply below_alloc | apply pw_below_drewN | apply below_drew1) | exact HB.out)) hb); clear HB; have HO377 := n0_; have HB := n1_; clear n0_ n1_; clear hb ho32) | ((with_reducible refine gate_dst (N := 3) rfl ?_); (try (refine gate_guard (by rfl) ?_; dsimp only)); refine Kd.R_lit Kd.string _ 9 ?hg (N := 3) ?hd (xs := ([(⟨#[97]⟩ : ByteArray)] : List ByteArray)) (inner := [.string (⟨#[97]⟩ : ByteArray)]) (ok := fun _ => True) (okp := fun _ => True) ?hr ?hp (fun _ hk => hk) trivial (Below.refl _ _) (Nat.le_refl _) (by simp) ?_; (case hd => rfl); (case hg => rfl); (case hr => first | (go_simp; done) | (go_simp; rfl)); (case hp => exact (Reps.one (show Kd.M Kd.string _ _ _ (⟨#[97]⟩ : ByteArray) [.string (⟨#[97]⟩ : ByteArray)] from rfl) (Reps.none _ _))); intro v379 w33 ho34 hb hg_ hnew_; clear hg_ hnew_; (first | rw [← Ny378.out] at ho34 | (simp only [Int.reduceToNat] at ho34; rw [← Ny378.out] at ho34)); have n0_ := Aside0.mk (Kd.R_elder' (by (with_reducible repeat (first | apply Kd.R_alloc | apply Kd.R_drewN | apply Kd.R_drew)); exact HO377.out) (Kd.R_base ho34) hb); have n1_ := Aside0.mk (Kd.R_lower (Kd.R_new' ho34 (Kd.R_lt (by (with_reducible repeat (first | apply Kd.R_alloc | apply Kd.R_drewN | apply Kd.R_drew)); exact HO377.out))) (below_size (by repeat (first | (with_reducible first | exact HB.out | apply below_alloc | apply pw_below_drewN | apply below_drew1) | exact HB.out)))); have n2_ := Aside0.mk (below_step (by repeat (first | (with_reducible first | exact HB.out | apply below_alloc | apply pw_below_drewN | apply below_drew1) | exact HB.out)) hb); clear HO377; clear HB; have HO377 := n0_; have HO380 := n1_; have HB := n2_; clear n0_ n1_ n2_; clear hb ho34) | ((with_reducible refine gate_dst (N := 4) rfl ?_); (try (refine gate_guard (by rfl) ?_; dsimp only)); refine Kd.R_lit (Kd.int .i64) _ 55 ?hg (N := 4) ?hd (xs := ([1, (-1)] : List Int)) (inner := [.int .i64 1, .int .i64 (-1)]) (ok := fun _ => True) (okp := fun _ => True) ?hr ?hp (fun _ hk => hk) trivial (Below.refl _ _) (Nat.le_refl _) (by simp) ?_; (case hd => rfl); (case hg => rfl); (case hr => first | (go_simp; done) | (go_simp; rfl)); (case hp => exact (Reps.one (show Kd.M (Kd.int .i64) _ _ _ 1 [.int .i64 1] from rfl) (Reps.one (show Kd.M (Kd.int .i64) _ _ _ (-1) [.int .i64 (-1)] from rfl) (Reps.none _ _)))); intro v382 w35 ho36 hb hg_ hnew_; clear hg_ hnew_; (first | rw [← Ny381.out] at ho36 | (simp only [Int.reduceToNat] at ho36; rw [← Ny381.out] at ho36)); have n0_ := Aside0.mk (Kd.R_below (by (with_reducible repeat (first | apply Kd.R_alloc | apply Kd.R_drewN | apply Kd.R_drew)); exact HO377.out) hb); have n1_ := Aside0.mk (Kd.R_below (by (with_reducible repeat (first | apply Kd.R_alloc | apply Kd.R_drewN | apply Kd.R_drew)); exact HO380.out) hb); have n2_ := Aside0.mk (Kd.R_lower ho36 (below_size (by repeat (first | (with_reducible first | exact HB.out | apply below_alloc | apply pw_below_drewN | apply below_drew1) | exact HB.out)))); have n3_ := Aside0.mk (below_step (by repeat (first | (with_reducible first | exact HB.out | apply below_alloc | apply pw_below_drewN | apply below_drew1) | exact HB.out)) hb); clear HO377; clear HO380; clear HB; have HO377 := n0_; have HO380 := n1_; have HO383 := n2_; have HB := n3_; clear n0_ n1_ n2_ n3_; clear hb ho36; obtain ⟨Ao37, co37, eo37⟩ := Kd.R_slice HO383.out; subst eo37) | ((with_reducible refine gate_dst (N := 6) rfl ?_); (try (refine gate_guard (by rfl) ?_; dsimp only)); refine Kd.R_lit (Kd.int .i64) _ 55 ?hg (N := 6) ?hd (xs := ([0] : List Int)) (inner := [.int .i64 0]) (ok := fun _ => True) (okp := fun _ => True) ?hr ?hp (fun _ hk => hk) trivial (Below.refl _ _) (Nat.le_refl _) (by simp) ?_; (case hd => rfl); (case hg => rfl); (case hr => first | (go_simp; done) | (go_simp; rfl)); (case hp => exact (Reps.one (show Kd.M (Kd.int .i64) _ _ _ 0 [.int .i64 0] from rfl) (Reps.none _ _))); intro v385 w38 ho39 hb hg_ hnew_; clear hg_ hnew_; (first | rw [← Ny384.out] at ho39 | (simp only [Int.reduceToNat] at ho39; rw [← Ny384.out] at ho39)); have n0_ := Aside0.mk (Kd.R_below (by (with_reducible repeat (first | apply Kd.R_alloc | apply Kd.R_drewN | apply Kd.R_drew)); exact HO377.out) hb); have n1_ := Aside0.mk (Kd.R_below (by (with_reducible repeat (first | apply Kd.R_alloc | apply Kd.R_drewN | apply Kd.R_drew)); exact HO380.out) hb); have n2_ := Aside0.mk (Kd.R_elder' (by (with_reducible repeat (first | apply Kd.R_alloc | apply Kd.R_drewN | apply Kd.R_drew)); exact HO383.out) (Kd.R_base ho39) hb); have n3_ := Aside0.mk (Kd.R_lower (Kd.R_new' ho39 (Kd.R_lt (by (with_reducible repeat (first | apply Kd.R_alloc | apply Kd.R_drewN | apply Kd.R_drew)); exact HO383.out))) (below_size (by repeat (first | (with_reducible first | exact HB.out | apply below_alloc | apply pw_below_drewN | apply below_drew1) | exact HB.out)))); have n4_ := Aside0.mk (below_step (by repeat (first | (with_reducible first | exact HB.out | apply below_alloc | apply pw_below_drewN | apply below_drew1) | exact HB.out)) hb); clear HO377; clear HO380; clear HO383; clear HB; have HO377 := n0_; have HO380 := n1_; have HO383 := n2_; have HO386 := n3_; have HB := n4_; clear n0_ n1_ n2_ n3_ n4_; clear hb ho39; obtain ⟨Ao40, co40, eo40⟩ := Kd.R_slice HO386.out; subst eo40) | ((with_reducible refine gate_dst (N := 8) rfl ?_); (try (refine gate_guard (by rfl) ?_; dsimp only)); refine Kd.N_lit k35 _ 35 ?hg (N' := 8) ?hd (xs := ([(⟨0, y381⟩ : S35), (⟨1, y384⟩ : S35)] : List (S35))) (inner := [.int .i64 0, .slice Ao37 y381.length co37, .int .i64 1, .slice Ao40 y384.length co40]) (ok := (fun k_ => some k_ ≠ (v376 : Value).ownBlock ∧ some k_ ≠ (v379 : Value).ownBlock)) (okp := (fun k_ => some k_ ≠ (v376 : Value).ownBlock ∧ some k_ ≠ (v379 : Value).ownBlock)) ?hr ?hp (fun _ hk => hk) ((show ∀ k_, w38.heap.size ≤ k_ → (fun k_ => some k_ ≠ (v376 : Value).ownBlock ∧ some k_ ≠ (v379 : Value).ownBlock) k_ from fun k_ hk => ⟨Kd.fresh' (Kd.R_lt (by (with_reducible repeat (first | apply Kd.R_alloc | apply Kd.R_drewN | apply Kd.R_drew)); exact HO377.out)) k_ hk, Kd.fresh' (Kd.R_lt (by (with_reducible repeat (first | apply Kd.R_alloc | apply Kd.R_drewN | apply Kd.R_drew)); exact HO380.out)) k_ hk⟩) _ (Nat.le_refl _)) (Below.refl _ _) (Nat.le_refl _) (by simp) ?_; (case hd => rfl); (case hg => rfl); (case hr => first | (go_simp; done) | (go_simp; rfl)); (case hp => exact (Reps.c2 (show Kd.FK k35 _ _ (⟨0, y381⟩ : S35) [.int .i64 0, .slice Ao37 y381.length co37] from (k35_mkF _ _ (⟨0, y381⟩ : S35) (Kd.R_reads' (Kd.R_mono (ok' := (fun k_ => some k_ ≠ (v376 : Value).ownBlock ∧ some k_ ≠ (v379 : Value).ownBlock)) (Kd.R_apart' (Kd.R_apart' (HO383.out) (Kd.R_typed HO377.out) (by decide)) (Kd.R_typed HO380.out) (by decide)) (fun k_ hk => ⟨hk.1.2, hk.2⟩))).2.1 (Kd.R_F (Kd.R_mono (ok' := (fun k_ => some k_ ≠ (v376 : Value).ownBlock ∧ some k_ ≠ (v379 : Value).ownBlock)) (Kd.R_apart' (Kd.R_apart' (HO383.out) (Kd.R_typed HO377.out) (by decide)) (Kd.R_typed HO380.out) (by decide)) (fun k_ hk => ⟨hk.1.2, hk.2⟩))))) (Reps.c2 (show Kd.FK k35 _ _ (⟨1, y384⟩ : S35) [.int .i64 1, .slice Ao40 y384.length co40] from (k35_mkF _ _ (⟨1, y384⟩ : S35) (Kd.R_reads' (Kd.R_mono (ok' := (fun k_ => some k_ ≠ (v376 : Value).ownBlock ∧ some k_ ≠ (v379 : Value).ownBlock)) (Kd.R_apart' (Kd.R_apart' (HO386.out) (Kd.R_typed HO377.out) (by decide)) (Kd.R_typed HO380.out) (by decide)) (fun k_ hk => ⟨hk.1.2, hk.2⟩))).2.1 (Kd.R_F (Kd.R_mono (ok' := (fun k_ => some k_ ≠ (v376 : Value).ownBlock ∧ some k_ ≠ (v379 : Value).ownBlock)) (Kd.R_apart' (Kd.R_apart' (HO386.out) (Kd.R_typed HO377.out) (by decide)) (Kd.R_typed HO380.out) (by decide)) (fun k_ hk => ⟨hk.1.2, hk.2⟩))))) (Reps.none _ _)))); intro v388 w41 ho42 hb hg_ hnew_; clear hg_ hnew_; (first | rw [← Ny387.out] at ho42 | (simp only [Int.reduceToNat] at ho42; rw [← Ny387.out] at ho42)); have n0_ := Aside0.mk (Kd.R_below (by (with_reducible repeat (first | apply Kd.R_alloc | apply Kd.R_drewN | apply Kd.R_drew)); exact HO377.out) hb); have n1_ := Aside0.mk (Kd.R_below (by (with_reducible repeat (first | apply Kd.R_alloc | apply Kd.R_drewN | apply Kd.R_drew)); exact HO380.out) hb); have n2_ := Aside0.mk (Kd.N_lower ho42 (below_size (by repeat (first | (with_reducible first | exact HB.out | apply below_alloc | apply pw_below_drewN | apply below_drew1) | exact HB.out)))); have n3_ := Aside0.mk (below_step (by repeat (first | (with_reducible first | exact HB.out | apply below_alloc | apply pw_below_drewN | apply below_drew1) | exact HB.out)) hb); clear HO377; clear HO380; clear HB; clear HO383; clear HO386; have HO377 := n0_; have HO380 := n1_; have HO389 := n2_; have HB := n3_; clear n0_ n1_ n2_ n3_; clear hb ho42; obtain ⟨Ao43, co43, eo43⟩ := Kd.N_slice HO389.out; subst eo43; obtain ⟨Ao44, co44, eo44⟩ := Kd.R_slice HO380.out; subst eo44; obtain ⟨Ao45, co45, eo45⟩ := Kd.R_slice HO377.out; subst eo45) | ((with_reducible refine gate_dst (N := 1) rfl ?_); (try (refine gate_guard (by rfl) ?_; dsimp only)); refine box_event ?hg (N := 1) ?hd (cs := #[.slice none 0 0, .slice none 0 0, .int .i64 0, .slice none 0 0]) (t := 25) ?hr ?_; (case hd => rfl); (case hg => rfl); (case hr => first | (go_simp; done) | (go_simp; rfl)); intro gb390 hg w46 hbox hb; have n0_ := Aside0.mk (Kd.R_below (by (with_reducible repeat (first | apply Kd.R_alloc | apply Kd.R_drewN | apply Kd.R_drew)); exact HO377.out) hb); have n1_ := Aside0.mk (Kd.R_below (by (with_reducible repeat (first | apply Kd.R_alloc | apply Kd.R_drewN | apply Kd.R_drew)); exact HO380.out) hb); have n2_ := Aside0.mk (Kd.N_below (Kd.N_elderB (by (with_reducible repeat (first | apply Kd.N_alloc | apply Kd.N_drewN | apply Kd.N_drew)); exact HO389.out) gb390 (Nat.le_of_eq hg.symm)) hb); have n3_ := Aside0.mk (below_step (by repeat (first | (with_reducible first | exact HB.out | apply below_alloc | apply pw_below_drewN | apply below_drew1) | exact HB.out)) hb); have n4_ := Aside0.mk (hbox); have n5_ := Aside0.mk ((by rw [hg]; exact (below_size (by repeat (first | (with_reducible first | exact HB.out | apply below_alloc | apply pw_below_drewN | apply below_drew1) | exact HB.out))) : w.heap.size ≤ gb390)); have n6_ := Aside0.mk ((by rw [hg]; exact (below_size (by repeat (first | (with_reducible first | exact HB.out | apply below_alloc | apply pw_below_drewN | apply below_drew1) | exact HB.out))) : w.heap.size ≤ gb390)); clear HO377; clear HO380; clear HO389; clear HB; have HO377 := n0_; have HO380 := n1_; have HO389 := n2_; have HB := n3_; have BK390 := n4_; have GW390 := n5_; have GE390 := n6_; clear n0_ n1_ n2_ n3_ n4_ n5_ n6_; clear hb hbox hg; have hcz47_0 : w46.cell? ⟨gb390, 0, none⟩ = some (.slice none 0 0) := (blk_cell BK390.out 0).trans rfl; have hcz47_1 : w46.cell? ⟨gb390, 1, none⟩ = some (.slice none 0 0) := (blk_cell BK390.out 1).trans rfl; have hcz47_2 : w46.cell? ⟨gb390, 2, none⟩ = some (.int .i64 0) := (blk_cell BK390.out 2).trans rfl; have hcz47_3 : w46.cell? ⟨gb390, 3, none⟩ = some (.slice none 0 0) := (blk_cell BK390.out 3).trans rfl; have hfz47_0 := blk_frozen BK390.out 0; have hfz47_1 := blk_frozen BK390.out 1; have hfz47_2 := blk_frozen BK390.out 2; have hfz47_3 := blk_frozen BK390.out 3) | ((with_reducible refine gate_callee (f := 19) rfl ?_); refine goesL_ (some 10) rfl rfl Tryd.func19 (by kernel_rfl) rfl #[] rfl (by (try simp only [List.map_toArray, List.map_cons, List.map_nil]); first | done | rfl | (simp only [List.length_drop, List.length_take]; rfl)) ?_; (with_reducible refine (wickerlaw02_Awake.calls k  true _ ?side1 A1.out).mono ?_); (case side1 => exact Laid.below HG.out (by repeat (first | (with_reducible first | exact HB.out | apply below_alloc | apply pw_below_drewN | apply below_drew1 | refine below_set ?_ GE390.out) | exact HB.out))); rintro e w48 ⟨rfl, hb⟩; refine ⟨_, rfl, ?_⟩; have n0_ := Aside0.mk (Kd.R_below (by (with_reducible repeat (first | apply Kd.R_alloc | apply Kd.R_drewN | apply Kd.R_drew)); exact (Kd.R_mono (Kd.R_far (p := ⟨gb390, 3, none⟩) (Kd.R_far (p := ⟨gb390, 2, none⟩) (Kd.R_far (p := ⟨gb390, 1, none⟩) (Kd.R_far (p := ⟨gb390, 0, none⟩) (Kd.R_types HO377.out BK390.out (by decide)) (fun _ hk => hk.2) (.slice Ao45 y375.length co45)) (fun _ hk => hk.2) (.slice Ao44 y378.length co44)) (fun _ hk => hk.2) (.int .i64 0)) (fun _ hk => hk.2) (.slice Ao43 y387.length co43)) (fun _ h_ => h_.1))) hb); have n1_ := Aside0.mk (Kd.R_below (by (with_reducible repeat (first | apply Kd.R_alloc | apply Kd.R_drewN | apply Kd.R_drew)); exact (Kd.R_mono (Kd.R_far (p := ⟨gb390, 3, none⟩) (Kd.R_far (p := ⟨gb390, 2, none⟩) (Kd.R_far (p := ⟨gb390, 1, none⟩) (Kd.R_far (p := ⟨gb390, 0, none⟩) (Kd.R_types HO380.out BK390.out (by decide)) (fun _ hk => hk.2) (.slice Ao45 y375.length co45)) (fun _ hk => hk.2) (.slice Ao44 y378.length co44)) (fun _ hk => hk.2) (.int .i64 0)) (fun _ hk => hk.2) (.slice Ao43 y387.length co43)) (fun _ h_ => h_.1))) hb); have n2_ := Aside0.mk (Kd.N_below (by (with_reducible repeat (first | apply Kd.N_alloc | apply Kd.N_drewN | apply Kd.N_drew)); exact (Kd.N_mono (Kd.N_far (p := ⟨gb390, 3, none⟩) (Kd.N_far (p := ⟨gb390, 2, none⟩) (Kd.N_far (p := ⟨gb390, 1, none⟩) (Kd.N_far (p := ⟨gb390, 0, none⟩) (Kd.N_mono HO389.out (fun k_ hk => (⟨hk, hk.2⟩ : _ ∧ k_ ≠ gb390))) (fun _ hk => hk.2) (.slice Ao45 y375.length co45)) (fun _ hk => hk.2) (.slice Ao44 y378.length co44)) (fun _ hk => hk.2) (.int .i64 0)) (fun _ hk => hk.2) (.slice Ao43 y387.length co43)) (fun _ h_ => h_.1))) hb); have n3_ := Aside0.mk (blk_below (g := gb390) (o := .cells #[.slice Ao45 y375.length co45, .slice Ao44 y378.length co44, .int .i64 0, .slice Ao43 y387.length co43] 25 (0, 0)) (by (with_reducible repeat (first | refine blk_drewN ?_ _ | refine blk_drew ?_ | refine blk_alloc ?_ _)); refine blk_put (cs := #[.slice Ao45 y375.length co45, .slice Ao44 y378.length co44, .int .i64 0, .slice none 0 0]) ?_ 3 _ rfl; (with_reducible repeat (first | refine blk_drewN ?_ _ | refine blk_drew ?_ | refine blk_alloc ?_ _)); refine blk_put (cs := #[.slice Ao45 y375.length co45, .slice Ao44 y378.length co44, .int .i64 0, .slice none 0 0]) ?_ 2 _ rfl; (with_reducible repeat (first | refine blk_drewN ?_ _ | refine blk_drew ?_ | refine blk_alloc ?_ _)); refine blk_put (cs := #[.slice Ao45 y375.length co45, .slice none 0 0, .int .i64 0, .slice none 0 0]) ?_ 1 _ rfl; (with_reducible repeat (first | refine blk_drewN ?_ _ | refine blk_drew ?_ | refine blk_alloc ?_ _)); refine blk_put (cs := #[.slice none 0 0, .slice none 0 0, .int .i64 0, .slice none 0 0]) ?_ 0 _ rfl; (with_reducible repeat (first | refine blk_drewN ?_ _ | refine blk_drew ?_ | refine blk_alloc ?_ _)); exact BK390.out) hb); have n4_ := Aside0.mk (below_step (by repeat (first | (with_reducible first | exact HB.out | apply below_alloc | apply pw_below_drewN | apply below_drew1 | refine below_set ?_ GE390.out) | exact HB.out)) hb); clear HO377; clear HO380; clear HO389; clear BK390; clear HB; have HO377 := n0_; have HO380 := n1_; have HO389 := n2_; have BK390 := n3_; have HB := n4_; clear n0_ n1_ n2_ n3_ n4_; (try clear hb); (try clear hb2); (try clear hk); (try clear hi); have hcz49_0 : w48.cell? ⟨gb390, 0, none⟩ = some (.slice Ao45 y375.length co45) := (blk_cell BK390.out 0).trans rfl; have hcz49_1 : w48.cell? ⟨gb390, 1, none⟩ = some (.slice Ao44 y378.length co44) := (blk_cell BK390.out 1).trans rfl; have hcz49_2 : w48.cell? ⟨gb390, 2, none⟩ = some (.int .i64 0) := (blk_cell BK390.out 2).trans rfl; have hcz49_3 : w48.cell? ⟨gb390, 3, none⟩ = some (.slice Ao43 y387.length co43) := (blk_cell BK390.out 3).trans rfl; have hfz49_0 := blk_frozen BK390.out 0; have hfz49_1 := blk_frozen BK390.out 1; have hfz49_2 := blk_frozen BK390.out 2; have hfz49_3 := blk_frozen BK390.out 3) | (go_at_call 65; (with_reducible refine (corner_Turns.calls k _ _ y375 _ _ y378 0 _ _ y387 t392 _ ?side1 ?side2 ?side3 ?side4 ?side5 ?side6 ?side7 A3.out).mono ?_); (case side1 => exact Laid.below HG.out (by repeat (first | (with_reducible first | exact HB.out | apply below_alloc | apply pw_below_drewN | apply below_drew1 | refine below_set ?_ GE390.out) | exact HB.out))); (case side2 => repeat (first | exact (Kd.R_reads' HO377.out).2.2 | (with_reducible refine Kd.C_alloc ?_ _) | (with_reducible refine Kd.C_drewN ?_ _) | (with_reducible refine Kd.C_drew ?_))); (case side3 => exact (Kd.R_reads' HO377.out).2.1); (case side4 => repeat (first | exact (Kd.R_reads' HO380.out).2.2 | (with_reducible refine Kd.C_alloc ?_ _) | (with_reducible refine Kd.C_drewN ?_ _) | (with_reducible refine Kd.C_drew ?_))); (case side5 => exact (Kd.R_reads' HO380.out).2.1); (case side6 => repeat (first | exact (Kd.N_reads' HO389.out).2.2 | (with_reducible refine Kd.C_alloc ?_ _) | (with_reducible refine Kd.C_drewN ?_ _) | (with_reducible refine Kd.C_drew ?_))); (case side7 => exact (Kd.N_reads' HO389.out).2.1); rintro e w50 ⟨v393, rfl, ho0, hb⟩; have n0_ := Aside0.mk (Kd.R_below (by (with_reducible repeat (first | apply Kd.R_alloc | apply Kd.R_drewN | apply Kd.R_drew)); exact HO377.out) hb); have n1_ := Aside0.mk (Kd.R_below (by (with_reducible repeat (first | apply Kd.R_alloc | apply Kd.R_drewN | apply Kd.R_drew)); exact HO380.out) hb); have n2_ := Aside0.mk (Kd.N_elder' (by (with_reducible repeat (first | apply Kd.N_alloc | apply Kd.N_drewN | apply Kd.N_drew)); exact HO389.out) (Kd.R_base ho0) hb); have n3_ := Aside0.mk (Kd.R_lower ho0 (below_size (by repeat (first | (with_reducible first | exact HB.out | apply below_alloc | apply pw_below_drewN | apply below_drew1 | refine below_set ?_ GE390.out) | exact HB.out)))); have n4_ := Aside0.mk (blk_below (g := gb390) (o := .cells #[.slice Ao45 y375.length co45, .slice Ao44 y378.length co44, .int .i64 0, .slice Ao43 y387.length co43] 25 (0, 0)) (by (with_reducible repeat (first | refine blk_drewN ?_ _ | refine blk_drew ?_ | refine blk_alloc ?_ _)); exact BK390.out) hb); have n5_ := Aside0.mk (below_step (by repeat (first | (with_reducible first | exact HB.out | apply below_alloc | apply pw_below_drewN | apply below_drew1 | refine below_set ?_ GE390.out) | exact HB.out)) hb); clear HO377; clear HO380; clear HO389; clear BK390; clear HB; have HO377 := n0_; have HO380 := n1_; have HO389 := n2_; have HO394 := n3_; have BK390 := n4_; have HB := n5_; clear n0_ n1_ n2_ n3_ n4_ n5_; (try clear hb); (try clear hb2); (try clear hk); (try clear hi); (try clear ho0); obtain ⟨Ao51, co51, eo51⟩ := Kd.R_slice HO394.out; subst eo51; have hcz52_0 : w50.cell? ⟨gb390, 0, none⟩ = some (.slice Ao45 y375.length co45) := (blk_cell BK390.out 0).trans rfl; have hcz52_1 : w50.cell? ⟨gb390, 1, none⟩ = some (.slice Ao44 y378.length co44) := (blk_cell BK390.out 1).trans rfl; have hcz52_2 : w50.cell? ⟨gb390, 2, none⟩ = some (.int .i64 0) := (blk_cell BK390.out 2).trans rfl; have hcz52_3 : w50.cell? ⟨gb390, 3, none⟩ = some (.slice Ao43 y387.length co43) := (blk_cell BK390.out 3).trans rfl; have hfz52_0 := blk_frozen BK390.out 0; have hfz52_1 := blk_frozen BK390.out 1; have hfz52_2 := blk_frozen BK390.out 2; have hfz52_3 := blk_frozen BK390.out 3) | (go_at_call 66; (with_reducible refine (corner_Own.calls k _ _ y375 _ _ y378 0 _ _ y387 0 false _ ?side1 ?side2 ?side3 ?side4 ?side5 ?side6 ?side7 A5.out).mono ?_); (case side1 => exact Laid.below HG.out (by repeat (first | (with_reducible first | exact HB.out | apply below_alloc | apply pw_below_drewN | apply below_drew1 | refine below_set ?_ GE390.out) | exact HB.out))); (case side2 => repeat (first | exact (Kd.R_reads' HO377.out).2.2 | (with_reducible refine Kd.C_alloc ?_ _) | (with_reducible refine Kd.C_drewN ?_ _) | (with_reducible refine Kd.C_drew ?_))); (case side3 => exact (Kd.R_reads' HO377.out).2.1); (case side4 => repeat (first | exact (Kd.R_reads' HO380.out).2.2 | (with_reducible refine Kd.C_alloc ?_ _) | (with_reducible refine Kd.C_drewN ?_ _) | (with_reducible refine Kd.C_drew ?_))); (case side5 => exact (Kd.R_reads' HO380.out).2.1); (case side6 => repeat (first | exact (Kd.N_reads' HO389.out).2.2 | (with_reducible refine Kd.C_alloc ?_ _) | (with_reducible refine Kd.C_drewN ?_ _) | (with_reducible refine Kd.C_drew ?_))); (case side7 => exact (Kd.N_reads' HO389.out).2.1); rintro e w53 ⟨rfl, hb⟩; have n0_ := Aside0.mk (Kd.R_below (by (with_reducible repeat (first | apply Kd.R_alloc | apply Kd.R_drewN | apply Kd.R_drew)); exact HO377.out) hb); have n1_ := Aside0.mk (Kd.R_below (by (with_reducible repeat (first | apply Kd.R_alloc | apply Kd.R_drewN | apply Kd.R_drew)); exact HO380.out) hb); have n2_ := Aside0.mk (Kd.N_below (by (with_reducible repeat (first | apply Kd.N_alloc | apply Kd.N_drewN | apply Kd.N_drew)); exact HO389.out) hb); have n3_ := Aside0.mk (Kd.R_below (by (with_reducible repeat (first | apply Kd.R_alloc | apply Kd.R_drewN | apply Kd.R_drew)); exact HO394.out) hb); have n4_ := Aside0.mk (blk_below (g := gb390) (o := .cells #[.slice Ao45 y375.length co45, .slice Ao44 y378.length co44, .int .i64 0, .slice Ao43 y387.length co43] 25 (0, 0)) (by (with_reducible repeat (first | refine blk_drewN ?_ _ | refine blk_drew ?_ | refine blk_alloc ?_ _)); exact BK390.out) hb); have n5_ := Aside0.mk (below_step (by repeat (first | (with_reducible first | exact HB.out | apply below_alloc | apply pw_below_drewN | apply below_drew1 | refine below_set ?_ GE390.out) | exact HB.out)) hb); clear HO377; clear HO380; clear HO389; clear HO394; clear BK390; clear HB; have HO377 := n0_; have HO380 := n1_; have HO389 := n2_; have HO394 := n3_; have BK390 := n4_; have HB := n5_; clear n0_ n1_ n2_ n3_ n4_ n5_; (try clear hb); (try clear hb2); (try clear hk); (try clear hi); have hcz54_0 : w53.cell? ⟨gb390, 0, none⟩ = some (.slice Ao45 y375.length co45) := (blk_cell BK390.out 0).trans rfl; have hcz54_1 : w53.cell? ⟨gb390, 1, none⟩ = some (.slice Ao44 y378.length co44) := (blk_cell BK390.out 1).trans rfl; have hcz54_2 : w53.cell? ⟨gb390, 2, none⟩ = some (.int .i64 0) := (blk_cell BK390.out 2).trans rfl; have hcz54_3 : w53.cell? ⟨gb390, 3, none⟩ = some (.slice Ao43 y387.length co43) := (blk_cell BK390.out 3).trans rfl; have hfz54_0 := blk_frozen BK390.out 0; have hfz54_1 := blk_frozen BK390.out 1; have hfz54_2 := blk_frozen BK390.out 2; have hfz54_3 := blk_frozen BK390.out 3) | (go_at_call 36; (with_reducible refine (corner_Straight.calls k _ _ y375 _ _ y378 0 _ _ y387 t396 _ ?side1 ?side2 ?side3 ?side4 ?side5 ?side6 ?side7 A30.out).mono ?_); (case side1 => exact Laid.below HG.out (by repeat (first | (with_reducible first | exact HB.out | apply below_alloc | apply pw_below_drewN | apply below_drew1 | refine below_set ?_ GE390.out) | exact HB.out))); (case side2 => repeat (first | exact (Kd.R_reads' HO377.out).2.2 | (with_reducible refine Kd.C_alloc ?_ _) | (with_reducible refine Kd.C_drewN ?_ _) | (with_reducible refine Kd.C_drew ?_))); (case side3 => exact (Kd.R_reads' HO377.out).2.1); (case side4 => repeat (first | exact (Kd.R_reads' HO380.out).2.2 | (with_reducible refine Kd.C_alloc ?_ _) | (with_reducible refine Kd.C_drewN ?_ _) | (with_reducible refine Kd.C_drew ?_))); (case side5 => exact (Kd.R_reads' HO380.out).2.1); (case side6 => repeat (first | exact (Kd.N_reads' HO389.out).2.2 | (with_reducible refine Kd.C_alloc ?_ _) | (with_reducible refine Kd.C_drewN ?_ _) | (with_reducible refine Kd.C_drew ?_))); (case side7 => exact (Kd.N_reads' HO389.out).2.1); rintro e w55 ⟨rfl, hb⟩; have n0_ := Aside0.mk (Kd.R_below (by (with_reducible repeat (first | apply Kd.R_alloc | apply Kd.R_drewN | apply Kd.R_drew)); exact HO377.out) hb); have n1_ := Aside0.mk (Kd.R_below (by (with_reducible repeat (first | apply Kd.R_alloc | apply Kd.R_drewN | apply Kd.R_drew)); exact HO380.out) hb); have n2_ := Aside0.mk (Kd.N_below (by (with_reducible repeat (first | apply Kd.N_alloc | apply Kd.N_drewN | apply Kd.N_drew)); exact HO389.out) hb); have n3_ := Aside0.mk (Kd.R_below (by (with_reducible repeat (first | apply Kd.R_alloc | apply Kd.R_drewN | apply Kd.R_drew)); exact HO394.out) hb); have n4_ := Aside0.mk (blk_below (g := gb390) (o := .cells #[.slice Ao45 y375.length co45, .slice Ao44 y378.length co44, .int .i64 0, .slice Ao43 y387.length co43] 25 (0, 0)) (by (with_reducible repeat (first | refine blk_drewN ?_ _ | refine blk_drew ?_ | refine blk_alloc ?_ _)); exact BK390.out) hb); have n5_ := Aside0.mk (below_step (by repeat (first | (with_reducible first | exact HB.out | apply below_alloc | apply pw_below_drewN | apply below_drew1 | refine below_set ?_ GE390.out) | exact HB.out)) hb); clear HO377; clear HO380; clear HO389; clear HO394; clear BK390; clear HB; have HO377 := n0_; have HO380 := n1_; have HO389 := n2_; have HO394 := n3_; have BK390 := n4_; have HB := n5_; clear n0_ n1_ n2_ n3_ n4_ n5_; (try clear hb); (try clear hb2); (try clear hk); (try clear hi)))
    go_ret
    exact ⟨by first | rfl | (simp [errW_none, errW_some] <;> rfl) | (simp [*, errW_none, errW_some] <;> rfl), by repeat (first | (with_reducible first | exact HB.out | apply below_alloc | apply pw_below_drewN | apply below_drew1 | refine below_set ?_ GE390.out) | exact HB.out)⟩
  ·rw [if_neg c4] at H
   have c4b0 : ((t392.length : Int) == 2) = false := beq_eq_false_iff_ne.mpr c4
   have c4b1 : ((t392.length : Int) != 2) = true := bne_iff_ne.mpr c4
   obtain rfl := Option.some.inj H
   go_enter Tryd.func35, Tryd.ntmps35
   go_wp2_with (first | ((with_reducible refine gate_dst (N := 2) rfl ?_); (try (refine gate_guard (by rfl) ?_; dsimp only)); refine Kd.R_lit Kd.string _ 9 ?hg (N := 2) ?hd (xs := ([(⟨#[83]⟩ : ByteArray), (⟨#[65]⟩ : ByteArray)] : List ByteArray)) (inner := [.string (⟨#[83]⟩ : ByteArray), .string (⟨#[65]⟩ : ByteArray)]) (ok := fun _ => True) (okp := fun _ => True) ?hr ?hp (fun _ hk => hk) trivial (Below.refl _ _) (Nat.le_refl _) (by simp) ?_; (case hd => rfl); (case hg => rfl); (case hr => first | (go_simp; done) | (go_simp; rfl)); (case hp => exact (Reps.one (show Kd.M Kd.string _ _ _ (⟨#[83]⟩ : ByteArray) [.string (⟨#[83]⟩ : ByteArray)] from rfl) (Reps.one (show Kd.M Kd.string _ _ _ (⟨#[65]⟩ : ByteArray) [.string (⟨#[65]⟩ : ByteArray)] from rfl) (Reps.none _ _)))); intro v376 w56 ho57 hb hg_ hnew_; clear hg_ hnew_; (first | rw [← Ny375.out] at ho57 | (simp only [Int.reduceToNat] at ho57; rw [← Ny375.out] at ho57)); have n0_ := Aside0.mk (Kd.R_lower ho57 (below_size (by repeat (first | (with_reducible first | exact HB.out | apply below_alloc | apply pw_below_drewN | apply below_drew1) | exact HB.out)))); have n1_ := Aside0.mk (below_step (by repeat (first | (with_reducible first | exact HB.out | apply below_alloc | apply pw_below_drewN | apply below_drew1) | exact HB.out)) hb); clear HB; have HO377 := n0_; have HB := n1_; clear n0_ n1_; clear hb ho57) | ((with_reducible refine gate_dst (N := 3) rfl ?_); (try (refine gate_guard (by rfl) ?_; dsimp only)); refine Kd.R_lit Kd.string _ 9 ?hg (N := 3) ?hd (xs := ([(⟨#[97]⟩ : ByteArray)] : List ByteArray)) (inner := [.string (⟨#[97]⟩ : ByteArray)]) (ok := fun _ => True) (okp := fun _ => True) ?hr ?hp (fun _ hk => hk) trivial (Below.refl _ _) (Nat.le_refl _) (by simp) ?_; (case hd => rfl); (case hg => rfl); (case hr => first | (go_simp; done) | (go_simp; rfl)); (case hp => exact (Reps.one (show Kd.M Kd.string _ _ _ (⟨#[97]⟩ : ByteArray) [.string (⟨#[97]⟩ : ByteArray)] from rfl) (Reps.none _ _))); intro v379 w58 ho59 hb hg_ hnew_; clear hg_ hnew_; (first | rw [← Ny378.out] at ho59 | (simp only [Int.reduceToNat] at ho59; rw [← Ny378.out] at ho59)); have n0_ := Aside0.mk (Kd.R_elder' (by (with_reducible repeat (first | apply Kd.R_alloc | apply Kd.R_drewN | apply Kd.R_drew)); exact HO377.out) (Kd.R_base ho59) hb); have n1_ := Aside0.mk (Kd.R_lower (Kd.R_new' ho59 (Kd.R_lt (by (with_reducible repeat (first | apply Kd.R_alloc | apply Kd.R_drewN | apply Kd.R_drew)); exact HO377.out))) (below_size (by repeat (first | (with_reducible first | exact HB.out | apply below_alloc | apply pw_below_drewN | apply below_drew1) | exact HB.out)))); have n2_ := Aside0.mk (below_step (by repeat (first | (with_reducible first | exact HB.out | apply below_alloc | apply pw_below_drewN | apply below_drew1) | exact HB.out)) hb); clear HO377; clear HB; have HO377 := n0_; have HO380 := n1_; have HB := n2_; clear n0_ n1_ n2_; clear hb ho59) | ((with_reducible refine gate_dst (N := 4) rfl ?_); (try (refine gate_guard (by rfl) ?_; dsimp only)); refine Kd.R_lit (Kd.int .i64) _ 55 ?hg (N := 4) ?hd (xs := ([1, (-1)] : List Int)) (inner := [.int .i64 1, .int .i64 (-1)]) (ok := fun _ => True) (okp := fun _ => True) ?hr ?hp (fun _ hk => hk) trivial (Below.refl _ _) (Nat.le_refl _) (by simp) ?_; (case hd => rfl); (case hg => rfl); (case hr => first | (go_simp; done) | (go_simp; rfl)); (case hp => exact (Reps.one (show Kd.M (Kd.int .i64) _ _ _ 1 [.int .i64 1] from rfl) (Reps.one (show Kd.M (Kd.int .i64) _ _ _ (-1) [.int .i64 (-1)] from rfl) (Reps.none _ _)))); intro v382 w60 ho61 hb hg_ hnew_; clear hg_ hnew_; (first | rw [← Ny381.out] at ho61 | (simp only [Int.reduceToNat] at ho61; rw [← Ny381.out] at ho61)); have n0_ := Aside0.mk (Kd.R_below (by (with_reducible repeat (first | apply Kd.R_alloc | apply Kd.R_drewN | apply Kd.R_drew)); exact HO377.out) hb); have n1_ := Aside0.mk (Kd.R_below (by (with_reducible repeat (first | apply Kd.R_alloc | apply Kd.R_drewN | apply Kd.R_drew)); exact HO380.out) hb); have n2_ := Aside0.mk (Kd.R_lower ho61 (below_size (by repeat (first | (with_reducible first | exact HB.out | apply below_alloc | apply pw_below_drewN | apply below_drew1) | exact HB.out)))); have n3_ := Aside0.mk (below_step (by repeat (first | (with_reducible first | exact HB.out | apply below_alloc | apply pw_below_drewN | apply below_drew1) | exact HB.out)) hb); clear HO377; clear HO380; clear HB; have HO377 := n0_; have HO380 := n1_; have HO383 := n2_; have HB := n3_; clear n0_ n1_ n2_ n3_; clear hb ho61; obtain ⟨Ao62, co62, eo62⟩ := Kd.R_slice HO383.out; subst eo62) | ((with_reducible refine gate_dst (N := 6) rfl ?_); (try (refine gate_guard (by rfl) ?_; dsimp only)); refine Kd.R_lit (Kd.int .i64) _ 55 ?hg (N := 6) ?hd (xs := ([0] : List Int)) (inner := [.int .i64 0]) (ok := fun _ => True) (okp := fun _ => True) ?hr ?hp (fun _ hk => hk) trivial (Below.refl _ _) (Nat.le_refl _) (by simp) ?_; (case hd => rfl); (case hg => rfl); (case hr => first | (go_simp; done) | (go_simp; rfl)); (case hp => exact (Reps.one (show Kd.M (Kd.int .i64) _ _ _ 0 [.int .i64 0] from rfl) (Reps.none _ _))); intro v385 w63 ho64 hb hg_ hnew_; clear hg_ hnew_; (first | rw [← Ny384.out] at ho64 | (simp only [Int.reduceToNat] at ho64; rw [← Ny384.out] at ho64)); have n0_ := Aside0.mk (Kd.R_below (by (with_reducible repeat (first | apply Kd.R_alloc | apply Kd.R_drewN | apply Kd.R_drew)); exact HO377.out) hb); have n1_ := Aside0.mk (Kd.R_below (by (with_reducible repeat (first | apply Kd.R_alloc | apply Kd.R_drewN | apply Kd.R_drew)); exact HO380.out) hb); have n2_ := Aside0.mk (Kd.R_elder' (by (with_reducible repeat (first | apply Kd.R_alloc | apply Kd.R_drewN | apply Kd.R_drew)); exact HO383.out) (Kd.R_base ho64) hb); have n3_ := Aside0.mk (Kd.R_lower (Kd.R_new' ho64 (Kd.R_lt (by (with_reducible repeat (first | apply Kd.R_alloc | apply Kd.R_drewN | apply Kd.R_drew)); exact HO383.out))) (below_size (by repeat (first | (with_reducible first | exact HB.out | apply below_alloc | apply pw_below_drewN | apply below_drew1) | exact HB.out)))); have n4_ := Aside0.mk (below_step (by repeat (first | (with_reducible first | exact HB.out | apply below_alloc | apply pw_below_drewN | apply below_drew1) | exact HB.out)) hb); clear HO377; clear HO380; clear HO383; clear HB; have HO377 := n0_; have HO380 := n1_; have HO383 := n2_; have HO386 := n3_; have HB := n4_; clear n0_ n1_ n2_ n3_ n4_; clear hb ho64; obtain ⟨Ao65, co65, eo65⟩ := Kd.R_slice HO386.out; subst eo65) | ((with_reducible refine gate_dst (N := 8) rfl ?_); (try (refine gate_guard (by rfl) ?_; dsimp only)); refine Kd.N_lit k35 _ 35 ?hg (N' := 8) ?hd (xs := ([(⟨0, y381⟩ : S35), (⟨1, y384⟩ : S35)] : List (S35))) (inner := [.int .i64 0, .slice Ao62 y381.length co62, .int .i64 1, .slice Ao65 y384.length co65]) (ok := (fun k_ => some k_ ≠ (v376 : Value).ownBlock ∧ some k_ ≠ (v379 : Value).ownBlock)) (okp := (fun k_ => some k_ ≠ (v376 : Value).ownBlock ∧ some k_ ≠ (v379 : Value).ownBlock)) ?hr ?hp (fun _ hk => hk) ((show ∀ k_, w63.heap.size ≤ k_ → (fun k_ => some k_ ≠ (v376 : Value).ownBlock ∧ some k_ ≠ (v379 : Value).ownBlock) k_ from fun k_ hk => ⟨Kd.fresh' (Kd.R_lt (by (with_reducible repeat (first | apply Kd.R_alloc | apply Kd.R_drewN | apply Kd.R_drew)); exact HO377.out)) k_ hk, Kd.fresh' (Kd.R_lt (by (with_reducible repeat (first | apply Kd.R_alloc | apply Kd.R_drewN | apply Kd.R_drew)); exact HO380.out)) k_ hk⟩) _ (Nat.le_refl _)) (Below.refl _ _) (Nat.le_refl _) (by simp) ?_; (case hd => rfl); (case hg => rfl); (case hr => first | (go_simp; done) | (go_simp; rfl)); (case hp => exact (Reps.c2 (show Kd.FK k35 _ _ (⟨0, y381⟩ : S35) [.int .i64 0, .slice Ao62 y381.length co62] from (k35_mkF _ _ (⟨0, y381⟩ : S35) (Kd.R_reads' (Kd.R_mono (ok' := (fun k_ => some k_ ≠ (v376 : Value).ownBlock ∧ some k_ ≠ (v379 : Value).ownBlock)) (Kd.R_apart' (Kd.R_apart' (HO383.out) (Kd.R_typed HO377.out) (by decide)) (Kd.R_typed HO380.out) (by decide)) (fun k_ hk => ⟨hk.1.2, hk.2⟩))).2.1 (Kd.R_F (Kd.R_mono (ok' := (fun k_ => some k_ ≠ (v376 : Value).ownBlock ∧ some k_ ≠ (v379 : Value).ownBlock)) (Kd.R_apart' (Kd.R_apart' (HO383.out) (Kd.R_typed HO377.out) (by decide)) (Kd.R_typed HO380.out) (by decide)) (fun k_ hk => ⟨hk.1.2, hk.2⟩))))) (Reps.c2 (show Kd.FK k35 _ _ (⟨1, y384⟩ : S35) [.int .i64 1, .slice Ao65 y384.length co65] from (k35_mkF _ _ (⟨1, y384⟩ : S35) (Kd.R_reads' (Kd.R_mono (ok' := (fun k_ => some k_ ≠ (v376 : Value).ownBlock ∧ some k_ ≠ (v379 : Value).ownBlock)) (Kd.R_apart' (Kd.R_apart' (HO386.out) (Kd.R_typed HO377.out) (by decide)) (Kd.R_typed HO380.out) (by decide)) (fun k_ hk => ⟨hk.1.2, hk.2⟩))).2.1 (Kd.R_F (Kd.R_mono (ok' := (fun k_ => some k_ ≠ (v376 : Value).ownBlock ∧ some k_ ≠ (v379 : Value).ownBlock)) (Kd.R_apart' (Kd.R_apart' (HO386.out) (Kd.R_typed HO377.out) (by decide)) (Kd.R_typed HO380.out) (by decide)) (fun k_ hk => ⟨hk.1.2, hk.2⟩))))) (Reps.none _ _)))); intro v388 w66 ho67 hb hg_ hnew_; clear hg_ hnew_; (first | rw [← Ny387.out] at ho67 | (simp only [Int.reduceToNat] at ho67; rw [← Ny387.out] at ho67)); have n0_ := Aside0.mk (Kd.R_below (by (with_reducible repeat (first | apply Kd.R_alloc | apply Kd.R_drewN | apply Kd.R_drew)); exact HO377.out) hb); have n1_ := Aside0.mk (Kd.R_below (by (with_reducible repeat (first | apply Kd.R_alloc | apply Kd.R_drewN | apply Kd.R_drew)); exact HO380.out) hb); have n2_ := Aside0.mk (Kd.N_lower ho67 (below_size (by repeat (first | (with_reducible first | exact HB.out | apply below_alloc | apply pw_below_drewN | apply below_drew1) | exact HB.out)))); have n3_ := Aside0.mk (below_step (by repeat (first | (with_reducible first | exact HB.out | apply below_alloc | apply pw_below_drewN | apply below_drew1) | exact HB.out)) hb); clear HO377; clear HO380; clear HB; clear HO383; clear HO386; have HO377 := n0_; have HO380 := n1_; have HO389 := n2_; have HB := n3_; clear n0_ n1_ n2_ n3_; clear hb ho67; obtain ⟨Ao68, co68, eo68⟩ := Kd.N_slice HO389.out; subst eo68; obtain ⟨Ao69, co69, eo69⟩ := Kd.R_slice HO380.out; subst eo69; obtain ⟨Ao70, co70, eo70⟩ := Kd.R_slice HO377.out; subst eo70) | ((with_reducible refine gate_dst (N := 1) rfl ?_); (try (refine gate_guard (by rfl) ?_; dsimp only)); refine box_event ?hg (N := 1) ?hd (cs := #[.slice none 0 0, .slice none 0 0, .int .i64 0, .slice none 0 0]) (t := 25) ?hr ?_; (case hd => rfl); (case hg => rfl); (case hr => first | (go_simp; done) | (go_simp; rfl)); intro gb390 hg w71 hbox hb; have n0_ := Aside0.mk (Kd.R_below (by (with_reducible repeat (first | apply Kd.R_alloc | apply Kd.R_drewN | apply Kd.R_drew)); exact HO377.out) hb); have n1_ := Aside0.mk (Kd.R_below (by (with_reducible repeat (first | apply Kd.R_alloc | apply Kd.R_drewN | apply Kd.R_drew)); exact HO380.out) hb); have n2_ := Aside0.mk (Kd.N_below (Kd.N_elderB (by (with_reducible repeat (first | apply Kd.N_alloc | apply Kd.N_drewN | apply Kd.N_drew)); exact HO389.out) gb390 (Nat.le_of_eq hg.symm)) hb); have n3_ := Aside0.mk (below_step (by repeat (first | (with_reducible first | exact HB.out | apply below_alloc | apply pw_below_drewN | apply below_drew1) | exact HB.out)) hb); have n4_ := Aside0.mk (hbox); have n5_ := Aside0.mk ((by rw [hg]; exact (below_size (by repeat (first | (with_reducible first | exact HB.out | apply below_alloc | apply pw_below_drewN | apply below_drew1) | exact HB.out))) : w.heap.size ≤ gb390)); have n6_ := Aside0.mk ((by rw [hg]; exact (below_size (by repeat (first | (with_reducible first | exact HB.out | apply below_alloc | apply pw_below_drewN | apply below_drew1) | exact HB.out))) : w.heap.size ≤ gb390)); clear HO377; clear HO380; clear HO389; clear HB; have HO377 := n0_; have HO380 := n1_; have HO389 := n2_; have HB := n3_; have BK390 := n4_; have GW390 := n5_; have GE390 := n6_; clear n0_ n1_ n2_ n3_ n4_ n5_ n6_; clear hb hbox hg; have hcz72_0 : w71.cell? ⟨gb390, 0, none⟩ = some (.slice none 0 0) := (blk_cell BK390.out 0).trans rfl; have hcz72_1 : w71.cell? ⟨gb390, 1, none⟩ = some (.slice none 0 0) := (blk_cell BK390.out 1).trans rfl; have hcz72_2 : w71.cell? ⟨gb390, 2, none⟩ = some (.int .i64 0) := (blk_cell BK390.out 2).trans rfl; have hcz72_3 : w71.cell? ⟨gb390, 3, none⟩ = some (.slice none 0 0) := (blk_cell BK390.out 3).trans rfl; have hfz72_0 := blk_frozen BK390.out 0; have hfz72_1 := blk_frozen BK390.out 1; have hfz72_2 := blk_frozen BK390.out 2; have hfz72_3 := blk_frozen BK390.out 3) | ((with_reducible refine gate_callee (f := 19) rfl ?_); refine goesL_ (some 10) rfl rfl Tryd.func19 (by kernel_rfl) rfl #[] rfl (by (try simp only [List.map_toArray, List.map_cons, List.map_nil]); first | done | rfl | (simp only [List.length_drop, List.length_take]; rfl)) ?_; (with_reducible refine (wickerlaw02_Awake.calls k  true _ ?side1 A1.out).mono ?_); (case side1 => exact Laid.below HG.out (by repeat (first | (with_reducible first | exact HB.out | apply below_alloc | apply pw_below_drewN | apply below_drew1 | refine below_set ?_ GE390.out) | exact HB.out))); rintro e w73 ⟨rfl, hb⟩; refine ⟨_, rfl, ?_⟩; have n0_ := Aside0.mk (Kd.R_below (by (with_reducible repeat (first | apply Kd.R_alloc | apply Kd.R_drewN | apply Kd.R_drew)); exact (Kd.R_mono (Kd.R_far (p := ⟨gb390, 3, none⟩) (Kd.R_far (p := ⟨gb390, 2, none⟩) (Kd.R_far (p := ⟨gb390, 1, none⟩) (Kd.R_far (p := ⟨gb390, 0, none⟩) (Kd.R_types HO377.out BK390.out (by decide)) (fun _ hk => hk.2) (.slice Ao70 y375.length co70)) (fun _ hk => hk.2) (.slice Ao69 y378.length co69)) (fun _ hk => hk.2) (.int .i64 0)) (fun _ hk => hk.2) (.slice Ao68 y387.length co68)) (fun _ h_ => h_.1))) hb); have n1_ := Aside0.mk (Kd.R_below (by (with_reducible repeat (first | apply Kd.R_alloc | apply Kd.R_drewN | apply Kd.R_drew)); exact (Kd.R_mono (Kd.R_far (p := ⟨gb390, 3, none⟩) (Kd.R_far (p := ⟨gb390, 2, none⟩) (Kd.R_far (p := ⟨gb390, 1, none⟩) (Kd.R_far (p := ⟨gb390, 0, none⟩) (Kd.R_types HO380.out BK390.out (by decide)) (fun _ hk => hk.2) (.slice Ao70 y375.length co70)) (fun _ hk => hk.2) (.slice Ao69 y378.length co69)) (fun _ hk => hk.2) (.int .i64 0)) (fun _ hk => hk.2) (.slice Ao68 y387.length co68)) (fun _ h_ => h_.1))) hb); have n2_ := Aside0.mk (Kd.N_below (by (with_reducible repeat (first | apply Kd.N_alloc | apply Kd.N_drewN | apply Kd.N_drew)); exact (Kd.N_mono (Kd.N_far (p := ⟨gb390, 3, none⟩) (Kd.N_far (p := ⟨gb390, 2, none⟩) (Kd.N_far (p := ⟨gb390, 1, none⟩) (Kd.N_far (p := ⟨gb390, 0, none⟩) (Kd.N_mono HO389.out (fun k_ hk => (⟨hk, hk.2⟩ : _ ∧ k_ ≠ gb390))) (fun _ hk => hk.2) (.slice Ao70 y375.length co70)) (fun _ hk => hk.2) (.slice Ao69 y378.length co69)) (fun _ hk => hk.2) (.int .i64 0)) (fun _ hk => hk.2) (.slice Ao68 y387.length co68)) (fun _ h_ => h_.1))) hb); have n3_ := Aside0.mk (blk_below (g := gb390) (o := .cells #[.slice Ao70 y375.length co70, .slice Ao69 y378.length co69, .int .i64 0, .slice Ao68 y387.length co68] 25 (0, 0)) (by (with_reducible repeat (first | refine blk_drewN ?_ _ | refine blk_drew ?_ | refine blk_alloc ?_ _)); refine blk_put (cs := #[.slice Ao70 y375.length co70, .slice Ao69 y378.length co69, .int .i64 0, .slice none 0 0]) ?_ 3 _ rfl; (with_reducible repeat (first | refine blk_drewN ?_ _ | refine blk_drew ?_ | refine blk_alloc ?_ _)); refine blk_put (cs := #[.slice Ao70 y375.length co70, .slice Ao69 y378.length co69, .int .i64 0, .slice none 0 0]) ?_ 2 _ rfl; (with_reducible repeat (first | refine blk_drewN ?_ _ | refine blk_drew ?_ | refine blk_alloc ?_ _)); refine blk_put (cs := #[.slice Ao70 y375.length co70, .slice none 0 0, .int .i64 0, .slice none 0 0]) ?_ 1 _ rfl; (with_reducible repeat (first | refine blk_drewN ?_ _ | refine blk_drew ?_ | refine blk_alloc ?_ _)); refine blk_put (cs := #[.slice none 0 0, .slice none 0 0, .int .i64 0, .slice none 0 0]) ?_ 0 _ rfl; (with_reducible repeat (first | refine blk_drewN ?_ _ | refine blk_drew ?_ | refine blk_alloc ?_ _)); exact BK390.out) hb); have n4_ := Aside0.mk (below_step (by repeat (first | (with_reducible first | exact HB.out | apply below_alloc | apply pw_below_drewN | apply below_drew1 | refine below_set ?_ GE390.out) | exact HB.out)) hb); clear HO377; clear HO380; clear HO389; clear BK390; clear HB; have HO377 := n0_; have HO380 := n1_; have HO389 := n2_; have BK390 := n3_; have HB := n4_; clear n0_ n1_ n2_ n3_ n4_; (try clear hb); (try clear hb2); (try clear hk); (try clear hi); have hcz74_0 : w73.cell? ⟨gb390, 0, none⟩ = some (.slice Ao70 y375.length co70) := (blk_cell BK390.out 0).trans rfl; have hcz74_1 : w73.cell? ⟨gb390, 1, none⟩ = some (.slice Ao69 y378.length co69) := (blk_cell BK390.out 1).trans rfl; have hcz74_2 : w73.cell? ⟨gb390, 2, none⟩ = some (.int .i64 0) := (blk_cell BK390.out 2).trans rfl; have hcz74_3 : w73.cell? ⟨gb390, 3, none⟩ = some (.slice Ao68 y387.length co68) := (blk_cell BK390.out 3).trans rfl; have hfz74_0 := blk_frozen BK390.out 0; have hfz74_1 := blk_frozen BK390.out 1; have hfz74_2 := blk_frozen BK390.out 2; have hfz74_3 := blk_frozen BK390.out 3) | (go_at_call 65; (with_reducible refine (corner_Turns.calls k _ _ y375 _ _ y378 0 _ _ y387 t392 _ ?side1 ?side2 ?side3 ?side4 ?side5 ?side6 ?side7 A3.out).mono ?_); (case side1 => exact Laid.below HG.out (by repeat (first | (with_reducible first | exact HB.out | apply below_alloc | apply pw_below_drewN | apply below_drew1 | refine below_set ?_ GE390.out) | exact HB.out))); (case side2 => repeat (first | exact (Kd.R_reads' HO377.out).2.2 | (with_reducible refine Kd.C_alloc ?_ _) | (with_reducible refine Kd.C_drewN ?_ _) | (with_reducible refine Kd.C_drew ?_))); (case side3 => exact (Kd.R_reads' HO377.out).2.1); (case side4 => repeat (first | exact (Kd.R_reads' HO380.out).2.2 | (with_reducible refine Kd.C_alloc ?_ _) | (with_reducible refine Kd.C_drewN ?_ _) | (with_reducible refine Kd.C_drew ?_))); (case side5 => exact (Kd.R_reads' HO380.out).2.1); (case side6 => repeat (first | exact (Kd.N_reads' HO389.out).2.2 | (with_reducible refine Kd.C_alloc ?_ _) | (with_reducible refine Kd.C_drewN ?_ _) | (with_reducible refine Kd.C_drew ?_))); (case side7 => exact (Kd.N_reads' HO389.out).2.1); rintro e w75 ⟨v393, rfl, ho0, hb⟩; have n0_ := Aside0.mk (Kd.R_below (by (with_reducible repeat (first | apply Kd.R_alloc | apply Kd.R_drewN | apply Kd.R_drew)); exact HO377.out) hb); have n1_ := Aside0.mk (Kd.R_below (by (with_reducible repeat (first | apply Kd.R_alloc | apply Kd.R_drewN | apply Kd.R_drew)); exact HO380.out) hb); have n2_ := Aside0.mk (Kd.N_elder' (by (with_reducible repeat (first | apply Kd.N_alloc | apply Kd.N_drewN | apply Kd.N_drew)); exact HO389.out) (Kd.R_base ho0) hb); have n3_ := Aside0.mk (Kd.R_lower ho0 (below_size (by repeat (first | (with_reducible first | exact HB.out | apply below_alloc | apply pw_below_drewN | apply below_drew1 | refine below_set ?_ GE390.out) | exact HB.out)))); have n4_ := Aside0.mk (blk_below (g := gb390) (o := .cells #[.slice Ao70 y375.length co70, .slice Ao69 y378.length co69, .int .i64 0, .slice Ao68 y387.length co68] 25 (0, 0)) (by (with_reducible repeat (first | refine blk_drewN ?_ _ | refine blk_drew ?_ | refine blk_alloc ?_ _)); exact BK390.out) hb); have n5_ := Aside0.mk (below_step (by repeat (first | (with_reducible first | exact HB.out | apply below_alloc | apply pw_below_drewN | apply below_drew1 | refine below_set ?_ GE390.out) | exact HB.out)) hb); clear HO377; clear HO380; clear HO389; clear BK390; clear HB; have HO377 := n0_; have HO380 := n1_; have HO389 := n2_; have HO394 := n3_; have BK390 := n4_; have HB := n5_; clear n0_ n1_ n2_ n3_ n4_ n5_; (try clear hb); (try clear hb2); (try clear hk); (try clear hi); (try clear ho0); obtain ⟨Ao76, co76, eo76⟩ := Kd.R_slice HO394.out; subst eo76))
   go_ret
   exact ⟨by first | rfl | (simp [errW_none, errW_some] <;> rfl) | (simp [*, errW_none, errW_some] <;> rfl), by repeat (first | (with_reducible first | exact HB.out | apply below_alloc | apply pw_below_drewN | apply below_drew1 | refine below_set ?_ GE390.out) | exact HB.out)⟩
 ·replace c2 := Bool.eq_false_iff.mpr c2
  subst c2
  have H1 : (some false) = some r := by rw [if_neg (show ¬ (false = true) by decide)] at H; exact H
  clear H
  have H := H1
  clear H1
  obtain rfl := Option.some.inj H
  go_enter Tryd.func35, Tryd.ntmps35
  go_wp2_with (first | ((with_reducible refine gate_dst (N := 2) rfl ?_); (try (refine gate_guard (by rfl) ?_; dsimp only)); refine Kd.R_lit Kd.string _ 9 ?hg (N := 2) ?hd (xs := ([(⟨#[83]⟩ : ByteArray), (⟨#[65]⟩ : ByteArray)] : List ByteArray)) (inner := [.string (⟨#[83]⟩ : ByteArray), .string (⟨#[65]⟩ : ByteArray)]) (ok := fun _ => True) (okp := fun _ => True) ?hr ?hp (fun _ hk => hk) trivial (Below.refl _ _) (Nat.le_refl _) (by simp) ?_; (case hd => rfl); (case hg => rfl); (case hr => first | (go_simp; done) | (go_simp; rfl)); (case hp => exact (Reps.one (show Kd.M Kd.string _ _ _ (⟨#[83]⟩ : ByteArray) [.string (⟨#[83]⟩ : ByteArray)] from rfl) (Reps.one (show Kd.M Kd.string _ _ _ (⟨#[65]⟩ : ByteArray) [.string (⟨#[65]⟩ : ByteArray)] from rfl) (Reps.none _ _)))); intro v376 w77 ho78 hb hg_ hnew_; clear hg_ hnew_; (first | rw [← Ny375.out] at ho78 | (simp only [Int.reduceToNat] at ho78; rw [← Ny375.out] at ho78)); have n0_ := Aside0.mk (Kd.R_lower ho78 (below_size (by repeat (first | (with_reducible first | exact HB.out | apply below_alloc | apply pw_below_drewN | apply below_drew1) | exact HB.out)))); have n1_ := Aside0.mk (below_step (by repeat (first | (with_reducible first | exact HB.out | apply below_alloc | apply pw_below_drewN | apply below_drew1) | exact HB.out)) hb); clear HB; have HO377 := n0_; have HB := n1_; clear n0_ n1_; clear hb ho78) | ((with_reducible refine gate_dst (N := 3) rfl ?_); (try (refine gate_guard (by rfl) ?_; dsimp only)); refine Kd.R_lit Kd.string _ 9 ?hg (N := 3) ?hd (xs := ([(⟨#[97]⟩ : ByteArray)] : List ByteArray)) (inner := [.string (⟨#[97]⟩ : ByteArray)]) (ok := fun _ => True) (okp := fun _ => True) ?hr ?hp (fun _ hk => hk) trivial (Below.refl _ _) (Nat.le_refl _) (by simp) ?_; (case hd => rfl); (case hg => rfl); (case hr => first | (go_simp; done) | (go_simp; rfl)); (case hp => exact (Reps.one (show Kd.M Kd.string _ _ _ (⟨#[97]⟩ : ByteArray) [.string (⟨#[97]⟩ : ByteArray)] from rfl) (Reps.none _ _))); intro v379 w79 ho80 hb hg_ hnew_; clear hg_ hnew_; (first | rw [← Ny378.out] at ho80 | (simp only [Int.reduceToNat] at ho80; rw [← Ny378.out] at ho80)); have n0_ := Aside0.mk (Kd.R_elder' (by (with_reducible repeat (first | apply Kd.R_alloc | apply Kd.R_drewN | apply Kd.R_drew)); exact HO377.out) (Kd.R_base ho80) hb); have n1_ := Aside0.mk (Kd.R_lower (Kd.R_new' ho80 (Kd.R_lt (by (with_reducible repeat (first | apply Kd.R_alloc | apply Kd.R_drewN | apply Kd.R_drew)); exact HO377.out))) (below_size (by repeat (first | (with_reducible first | exact HB.out | apply below_alloc | apply pw_below_drewN | apply below_drew1) | exact HB.out)))); have n2_ := Aside0.mk (below_step (by repeat (first | (with_reducible first | exact HB.out | apply below_alloc | apply pw_below_drewN | apply below_drew1) | exact HB.out)) hb); clear HO377; clear HB; have HO377 := n0_; have HO380 := n1_; have HB := n2_; clear n0_ n1_ n2_; clear hb ho80) | ((with_reducible refine gate_dst (N := 4) rfl ?_); (try (refine gate_guard (by rfl) ?_; dsimp only)); refine Kd.R_lit (Kd.int .i64) _ 55 ?hg (N := 4) ?hd (xs := ([1, (-1)] : List Int)) (inner := [.int .i64 1, .int .i64 (-1)]) (ok := fun _ => True) (okp := fun _ => True) ?hr ?hp (fun _ hk => hk) trivial (Below.refl _ _) (Nat.le_refl _) (by simp) ?_; (case hd => rfl); (case hg => rfl); (case hr => first | (go_simp; done) | (go_simp; rfl)); (case hp => exact (Reps.one (show Kd.M (Kd.int .i64) _ _ _ 1 [.int .i64 1] from rfl) (Reps.one (show Kd.M (Kd.int .i64) _ _ _ (-1) [.int .i64 (-1)] from rfl) (Reps.none _ _)))); intro v382 w81 ho82 hb hg_ hnew_; clear hg_ hnew_; (first | rw [← Ny381.out] at ho82 | (simp only [Int.reduceToNat] at ho82; rw [← Ny381.out] at ho82)); have n0_ := Aside0.mk (Kd.R_below (by (with_reducible repeat (first | apply Kd.R_alloc | apply Kd.R_drewN | apply Kd.R_drew)); exact HO377.out) hb); have n1_ := Aside0.mk (Kd.R_below (by (with_reducible repeat (first | apply Kd.R_alloc | apply Kd.R_drewN | apply Kd.R_drew)); exact HO380.out) hb); have n2_ := Aside0.mk (Kd.R_lower ho82 (below_size (by repeat (first | (with_reducible first | exact HB.out | apply below_alloc | apply pw_below_drewN | apply below_drew1) | exact HB.out)))); have n3_ := Aside0.mk (below_step (by repeat (first | (with_reducible first | exact HB.out | apply below_alloc | apply pw_below_drewN | apply below_drew1) | exact HB.out)) hb); clear HO377; clear HO380; clear HB; have HO377 := n0_; have HO380 := n1_; have HO383 := n2_; have HB := n3_; clear n0_ n1_ n2_ n3_; clear hb ho82; obtain ⟨Ao83, co83, eo83⟩ := Kd.R_slice HO383.out; subst eo83) | ((with_reducible refine gate_dst (N := 6) rfl ?_); (try (refine gate_guard (by rfl) ?_; dsimp only)); refine Kd.R_lit (Kd.int .i64) _ 55 ?hg (N := 6) ?hd (xs := ([0] : List Int)) (inner := [.int .i64 0]) (ok := fun _ => True) (okp := fun _ => True) ?hr ?hp (fun _ hk => hk) trivial (Below.refl _ _) (Nat.le_refl _) (by simp) ?_; (case hd => rfl); (case hg => rfl); (case hr => first | (go_simp; done) | (go_simp; rfl)); (case hp => exact (Reps.one (show Kd.M (Kd.int .i64) _ _ _ 0 [.int .i64 0] from rfl) (Reps.none _ _))); intro v385 w84 ho85 hb hg_ hnew_; clear hg_ hnew_; (first | rw [← Ny384.out] at ho85 | (simp only [Int.reduceToNat] at ho85; rw [← Ny384.out] at ho85)); have n0_ := Aside0.mk (Kd.R_below (by (with_reducible repeat (first | apply Kd.R_alloc | apply Kd.R_drewN | apply Kd.R_drew)); exact HO377.out) hb); have n1_ := Aside0.mk (Kd.R_below (by (with_reducible repeat (first | apply Kd.R_alloc | apply Kd.R_drewN | apply Kd.R_drew)); exact HO380.out) hb); have n2_ := Aside0.mk (Kd.R_elder' (by (with_reducible repeat (first | apply Kd.R_alloc | apply Kd.R_drewN | apply Kd.R_drew)); exact HO383.out) (Kd.R_base ho85) hb); have n3_ := Aside0.mk (Kd.R_lower (Kd.R_new' ho85 (Kd.R_lt (by (with_reducible repeat (first | apply Kd.R_alloc | apply Kd.R_drewN | apply Kd.R_drew)); exact HO383.out))) (below_size (by repeat (first | (with_reducible first | exact HB.out | apply below_alloc | apply pw_below_drewN | apply below_drew1) | exact HB.out)))); have n4_ := Aside0.mk (below_step (by repeat (first | (with_reducible first | exact HB.out | apply below_alloc | apply pw_below_drewN | apply below_drew1) | exact HB.out)) hb); clear HO377; clear HO380; clear HO383; clear HB; have HO377 := n0_; have HO380 := n1_; have HO383 := n2_; have HO386 := n3_; have HB := n4_; clear n0_ n1_ n2_ n3_ n4_; clear hb ho85; obtain ⟨Ao86, co86, eo86⟩ := Kd.R_slice HO386.out; subst eo86) | ((with_reducible refine gate_dst (N := 8) rfl ?_); (try (refine gate_guard (by rfl) ?_; dsimp only)); refine Kd.N_lit k35 _ 35 ?hg (N' := 8) ?hd (xs := ([(⟨0, y381⟩ : S35), (⟨1, y384⟩ : S35)] : List (S35))) (inner := [.int .i64 0, .slice Ao83 y381.length co83, .int .i64 1, .slice Ao86 y384.length co86]) (ok := (fun k_ => some k_ ≠ (v376 : Value).ownBlock ∧ some k_ ≠ (v379 : Value).ownBlock)) (okp := (fun k_ => some k_ ≠ (v376 : Value).ownBlock ∧ some k_ ≠ (v379 : Value).ownBlock)) ?hr ?hp (fun _ hk => hk) ((show ∀ k_, w84.heap.size ≤ k_ → (fun k_ => some k_ ≠ (v376 : Value).ownBlock ∧ some k_ ≠ (v379 : Value).ownBlock) k_ from fun k_ hk => ⟨Kd.fresh' (Kd.R_lt (by (with_reducible repeat (first | apply Kd.R_alloc | apply Kd.R_drewN | apply Kd.R_drew)); exact HO377.out)) k_ hk, Kd.fresh' (Kd.R_lt (by (with_reducible repeat (first | apply Kd.R_alloc | apply Kd.R_drewN | apply Kd.R_drew)); exact HO380.out)) k_ hk⟩) _ (Nat.le_refl _)) (Below.refl _ _) (Nat.le_refl _) (by simp) ?_; (case hd => rfl); (case hg => rfl); (case hr => first | (go_simp; done) | (go_simp; rfl)); (case hp => exact (Reps.c2 (show Kd.FK k35 _ _ (⟨0, y381⟩ : S35) [.int .i64 0, .slice Ao83 y381.length co83] from (k35_mkF _ _ (⟨0, y381⟩ : S35) (Kd.R_reads' (Kd.R_mono (ok' := (fun k_ => some k_ ≠ (v376 : Value).ownBlock ∧ some k_ ≠ (v379 : Value).ownBlock)) (Kd.R_apart' (Kd.R_apart' (HO383.out) (Kd.R_typed HO377.out) (by decide)) (Kd.R_typed HO380.out) (by decide)) (fun k_ hk => ⟨hk.1.2, hk.2⟩))).2.1 (Kd.R_F (Kd.R_mono (ok' := (fun k_ => some k_ ≠ (v376 : Value).ownBlock ∧ some k_ ≠ (v379 : Value).ownBlock)) (Kd.R_apart' (Kd.R_apart' (HO383.out) (Kd.R_typed HO377.out) (by decide)) (Kd.R_typed HO380.out) (by decide)) (fun k_ hk => ⟨hk.1.2, hk.2⟩))))) (Reps.c2 (show Kd.FK k35 _ _ (⟨1, y384⟩ : S35) [.int .i64 1, .slice Ao86 y384.length co86] from (k35_mkF _ _ (⟨1, y384⟩ : S35) (Kd.R_reads' (Kd.R_mono (ok' := (fun k_ => some k_ ≠ (v376 : Value).ownBlock ∧ some k_ ≠ (v379 : Value).ownBlock)) (Kd.R_apart' (Kd.R_apart' (HO386.out) (Kd.R_typed HO377.out) (by decide)) (Kd.R_typed HO380.out) (by decide)) (fun k_ hk => ⟨hk.1.2, hk.2⟩))).2.1 (Kd.R_F (Kd.R_mono (ok' := (fun k_ => some k_ ≠ (v376 : Value).ownBlock ∧ some k_ ≠ (v379 : Value).ownBlock)) (Kd.R_apart' (Kd.R_apart' (HO386.out) (Kd.R_typed HO377.out) (by decide)) (Kd.R_typed HO380.out) (by decide)) (fun k_ hk => ⟨hk.1.2, hk.2⟩))))) (Reps.none _ _)))); intro v388 w87 ho88 hb hg_ hnew_; clear hg_ hnew_; (first | rw [← Ny387.out] at ho88 | (simp only [Int.reduceToNat] at ho88; rw [← Ny387.out] at ho88)); have n0_ := Aside0.mk (Kd.R_below (by (with_reducible repeat (first | apply Kd.R_alloc | apply Kd.R_drewN | apply Kd.R_drew)); exact HO377.out) hb); have n1_ := Aside0.mk (Kd.R_below (by (with_reducible repeat (first | apply Kd.R_alloc | apply Kd.R_drewN | apply Kd.R_drew)); exact HO380.out) hb); have n2_ := Aside0.mk (Kd.N_lower ho88 (below_size (by repeat (first | (with_reducible first | exact HB.out | apply below_alloc | apply pw_below_drewN | apply below_drew1) | exact HB.out)))); have n3_ := Aside0.mk (below_step (by repeat (first | (with_reducible first | exact HB.out | apply below_alloc | apply pw_below_drewN | apply below_drew1) | exact HB.out)) hb); clear HO377; clear HO380; clear HB; clear HO383; clear HO386; have HO377 := n0_; have HO380 := n1_; have HO389 := n2_; have HB := n3_; clear n0_ n1_ n2_ n3_; clear hb ho88; obtain ⟨Ao89, co89, eo89⟩ := Kd.N_slice HO389.out; subst eo89; obtain ⟨Ao90, co90, eo90⟩ := Kd.R_slice HO380.out; subst eo90; obtain ⟨Ao91, co91, eo91⟩ := Kd.R_slice HO377.out; subst eo91) | ((with_reducible refine gate_dst (N := 1) rfl ?_); (try (refine gate_guard (by rfl) ?_; dsimp only)); refine box_event ?hg (N := 1) ?hd (cs := #[.slice none 0 0, .slice none 0 0, .int .i64 0, .slice none 0 0]) (t := 25) ?hr ?_; (case hd => rfl); (case hg => rfl); (case hr => first | (go_simp; done) | (go_simp; rfl)); intro gb390 hg w92 hbox hb; have n0_ := Aside0.mk (Kd.R_below (by (with_reducible repeat (first | apply Kd.R_alloc | apply Kd.R_drewN | apply Kd.R_drew)); exact HO377.out) hb); have n1_ := Aside0.mk (Kd.R_below (by (with_reducible repeat (first | apply Kd.R_alloc | apply Kd.R_drewN | apply Kd.R_drew)); exact HO380.out) hb); have n2_ := Aside0.mk (Kd.N_below (Kd.N_elderB (by (with_reducible repeat (first | apply Kd.N_alloc | apply Kd.N_drewN | apply Kd.N_drew)); exact HO389.out) gb390 (Nat.le_of_eq hg.symm)) hb); have n3_ := Aside0.mk (below_step (by repeat (first | (with_reducible first | exact HB.out | apply below_alloc | apply pw_below_drewN | apply below_drew1) | exact HB.out)) hb); have n4_ := Aside0.mk (hbox); have n5_ := Aside0.mk ((by rw [hg]; exact (below_size (by repeat (first | (with_reducible first | exact HB.out | apply below_alloc | apply pw_below_drewN | apply below_drew1) | exact HB.out))) : w.heap.size ≤ gb390)); have n6_ := Aside0.mk ((by rw [hg]; exact (below_size (by repeat (first | (with_reducible first | exact HB.out | apply below_alloc | apply pw_below_drewN | apply below_drew1) | exact HB.out))) : w.heap.size ≤ gb390)); clear HO377; clear HO380; clear HO389; clear HB; have HO377 := n0_; have HO380 := n1_; have HO389 := n2_; have HB := n3_; have BK390 := n4_; have GW390 := n5_; have GE390 := n6_; clear n0_ n1_ n2_ n3_ n4_ n5_ n6_; clear hb hbox hg; have hcz93_0 : w92.cell? ⟨gb390, 0, none⟩ = some (.slice none 0 0) := (blk_cell BK390.out 0).trans rfl; have hcz93_1 : w92.cell? ⟨gb390, 1, none⟩ = some (.slice none 0 0) := (blk_cell BK390.out 1).trans rfl; have hcz93_2 : w92.cell? ⟨gb390, 2, none⟩ = some (.int .i64 0) := (blk_cell BK390.out 2).trans rfl; have hcz93_3 : w92.cell? ⟨gb390, 3, none⟩ = some (.slice none 0 0) := (blk_cell BK390.out 3).trans rfl; have hfz93_0 := blk_frozen BK390.out 0; have hfz93_1 := blk_frozen BK390.out 1; have hfz93_2 := blk_frozen BK390.out 2; have hfz93_3 := blk_frozen BK390.out 3) | ((with_reducible refine gate_callee (f := 19) rfl ?_); refine goesL_ (some 10) rfl rfl Tryd.func19 (by kernel_rfl) rfl #[] rfl (by (try simp only [List.map_toArray, List.map_cons, List.map_nil]); first | done | rfl | (simp only [List.length_drop, List.length_take]; rfl)) ?_; (with_reducible refine (wickerlaw02_Awake.calls k  false _ ?side1 A1.out).mono ?_); (case side1 => exact Laid.below HG.out (by repeat (first | (with_reducible first | exact HB.out | apply below_alloc | apply pw_below_drewN | apply below_drew1 | refine below_set ?_ GE390.out) | exact HB.out))); rintro e w94 ⟨rfl, hb⟩; refine ⟨_, rfl, ?_⟩; have n0_ := Aside0.mk (Kd.R_below (by (with_reducible repeat (first | apply Kd.R_alloc | apply Kd.R_drewN | apply Kd.R_drew)); exact (Kd.R_mono (Kd.R_far (p := ⟨gb390, 3, none⟩) (Kd.R_far (p := ⟨gb390, 2, none⟩) (Kd.R_far (p := ⟨gb390, 1, none⟩) (Kd.R_far (p := ⟨gb390, 0, none⟩) (Kd.R_types HO377.out BK390.out (by decide)) (fun _ hk => hk.2) (.slice Ao91 y375.length co91)) (fun _ hk => hk.2) (.slice Ao90 y378.length co90)) (fun _ hk => hk.2) (.int .i64 0)) (fun _ hk => hk.2) (.slice Ao89 y387.length co89)) (fun _ h_ => h_.1))) hb); have n1_ := Aside0.mk (Kd.R_below (by (with_reducible repeat (first | apply Kd.R_alloc | apply Kd.R_drewN | apply Kd.R_drew)); exact (Kd.R_mono (Kd.R_far (p := ⟨gb390, 3, none⟩) (Kd.R_far (p := ⟨gb390, 2, none⟩) (Kd.R_far (p := ⟨gb390, 1, none⟩) (Kd.R_far (p := ⟨gb390, 0, none⟩) (Kd.R_types HO380.out BK390.out (by decide)) (fun _ hk => hk.2) (.slice Ao91 y375.length co91)) (fun _ hk => hk.2) (.slice Ao90 y378.length co90)) (fun _ hk => hk.2) (.int .i64 0)) (fun _ hk => hk.2) (.slice Ao89 y387.length co89)) (fun _ h_ => h_.1))) hb); have n2_ := Aside0.mk (Kd.N_below (by (with_reducible repeat (first | apply Kd.N_alloc | apply Kd.N_drewN | apply Kd.N_drew)); exact (Kd.N_mono (Kd.N_far (p := ⟨gb390, 3, none⟩) (Kd.N_far (p := ⟨gb390, 2, none⟩) (Kd.N_far (p := ⟨gb390, 1, none⟩) (Kd.N_far (p := ⟨gb390, 0, none⟩) (Kd.N_mono HO389.out (fun k_ hk => (⟨hk, hk.2⟩ : _ ∧ k_ ≠ gb390))) (fun _ hk => hk.2) (.slice Ao91 y375.length co91)) (fun _ hk => hk.2) (.slice Ao90 y378.length co90)) (fun _ hk => hk.2) (.int .i64 0)) (fun _ hk => hk.2) (.slice Ao89 y387.length co89)) (fun _ h_ => h_.1))) hb); have n3_ := Aside0.mk (blk_below (g := gb390) (o := .cells #[.slice Ao91 y375.length co91, .slice Ao90 y378.length co90, .int .i64 0, .slice Ao89 y387.length co89] 25 (0, 0)) (by (with_reducible repeat (first | refine blk_drewN ?_ _ | refine blk_drew ?_ | refine blk_alloc ?_ _)); refine blk_put (cs := #[.slice Ao91 y375.length co91, .slice Ao90 y378.length co90, .int .i64 0, .slice none 0 0]) ?_ 3 _ rfl; (with_reducible repeat (first | refine blk_drewN ?_ _ | refine blk_drew ?_ | refine blk_alloc ?_ _)); refine blk_put (cs := #[.slice Ao91 y375.length co91, .slice Ao90 y378.length co90, .int .i64 0, .slice none 0 0]) ?_ 2 _ rfl; (with_reducible repeat (first | refine blk_drewN ?_ _ | refine blk_drew ?_ | refine blk_alloc ?_ _)); refine blk_put (cs := #[.slice Ao91 y375.length co91, .slice none 0 0, .int .i64 0, .slice none 0 0]) ?_ 1 _ rfl; (with_reducible repeat (first | refine blk_drewN ?_ _ | refine blk_drew ?_ | refine blk_alloc ?_ _)); refine blk_put (cs := #[.slice none 0 0, .slice none 0 0, .int .i64 0, .slice none 0 0]) ?_ 0 _ rfl; (with_reducible repeat (first | refine blk_drewN ?_ _ | refine blk_drew ?_ | refine blk_alloc ?_ _)); exact BK390.out) hb); have n4_ := Aside0.mk (below_step (by repeat (first | (with_reducible first | exact HB.out | apply below_alloc | apply pw_below_drewN | apply below_drew1 | refine below_set ?_ GE390.out) | exact HB.out)) hb); clear HO377; clear HO380; clear HO389; clear BK390; clear HB; have HO377 := n0_; have HO380 := n1_; have HO389 := n2_; have BK390 := n3_; have HB := n4_; clear n0_ n1_ n2_ n3_ n4_; (try clear hb); (try clear hb2); (try clear hk); (try clear hi)))
  go_ret
  exact ⟨by first | rfl | (simp [errW_none, errW_some] <;> rfl) | (simp [*, errW_none, errW_some] <;> rfl), by repeat (first | (with_reducible first | exact HB.out | apply below_alloc | apply pw_below_drewN | apply below_drew1 | refine below_set ?_ GE390.out) | exact HB.out)⟩
end Go.Proofs.YtgdcnmpcfoomiaaDoor.G
end
section
namespace Go.Proofs.YtgdcnmpcfoomiaaDoor.G
open Go.RowKit Go.Proofs.YtgdcnmpcfoomiaaDoorW.PrintWords Go.Proofs.YtgdcnmpcfoomiaaDoorW.PrintLast Go.Proofs.YtgdcnmpcfoomiaaDoorW.PrintMore
attribute [local go_sem] max2_int min2_int max_two min_two max_three min_three max_four min_four
attribute [local go_sem] Go.Proofs.YtgdcnmpcfoomiaaDoorOwn.isSome_setCell
set_option linter.unusedVariables false
set_option linter.unusedSimpArgs false
mutual
def wickerlaw11_CornerRow.j0 : Nat → Bool → List ByteArray → List ByteArray → Int → List (S35) → Option (Bool)
 | 0, _, _, _, _, _ => none
 | k + 1, x17, x398000, x398001, x398002, x398003 => if x17 = true then ((wickerlaw11_Awake.f k).bind fun t400 => (some t400)) else (if 0 ≤ (x398000.length : Int) then (if ((x398000.length : Int) : Int).toNat ≤ 281474976710656 then (wickerlaw11_CornerRow.l0 k (List.replicate ((x398000.length : Int) : Int).toNat false) (x398000.length : Int) true x398000 x398001 x398002 x398003) else (none)) else (none))
def wickerlaw11_CornerRow.l0 : Nat → List Bool → Int → Bool → List ByteArray → List ByteArray → Int → List (S35) → Option (Bool)
 | 0, _, _, _, _, _, _, _ => none
 | k + 1, x3, x4, x5, x398000, x398001, x398002, x398003 => if x5 = true then (wickerlaw11_CornerRow.l1 k x3 x4 false (x398000.length : Int) 0 x398000 x398001 x398002 x398003) else ((wickerlaw11_Awake.f k).bind fun t404 => (if t404 = true then ((corner_Straight.f k x398000 x398001 x398002 x398003).bind fun t405 => (some (t405 == (x4 == 0)))) else (some false)))
def wickerlaw11_CornerRow.l1 : Nat → List Bool → Int → Bool → Int → Int → List ByteArray → List ByteArray → Int → List (S35) → Option (Bool)
 | 0, _, _, _, _, _, _, _, _, _ => none
 | k + 1, x3, x4, x5, x29, x30, x398000, x398001, x398002, x398003 => if x30 < x29 then (if 0 ≤ x30 then (if x30 < (x3.length : Int) then (wickerlaw11_CornerRow.l2 k x3 x4 x5 x30 (!(rdOf false x3 x30)) x29 x30 x398003 (x398003.length : Int) 0 x398000 x398001 x398002 x398003) else (none)) else (none)) else (wickerlaw11_CornerRow.l0 k x3 x4 x5 x398000 x398001 x398002 x398003)
def wickerlaw11_CornerRow.l2 : Nat → List Bool → Int → Bool → Int → Bool → Int → Int → List (S35) → Int → Int → List ByteArray → List ByteArray → Int → List (S35) → Option (Bool)
 | 0, _, _, _, _, _, _, _, _, _, _, _, _, _, _ => none
 | k + 1, x3, x4, x5, x6, x7, x29, x30, x39, x40, x41, x398000, x398001, x398002, x398003 => if x41 < x40 then (if 0 ≤ x41 then (if x41 < (x39.length : Int) then (if (((rd_T35 x39 x41).f1).length : Int) > 0 then (if 0 < (((rd_T35 x39 x41).f1).length : Int) then ((gram_Sym_IsTerm.f (rd ((rd_T35 x39 x41).f1) 0)).bind fun t411 => (if t411 = true then (wickerlaw11_CornerRow.l2 k x3 x4 x5 x6 x7 x29 x30 x39 x40 (wrap64 (x41 + 1)) x398000 x398001 x398002 x398003) else ((gram_Sym_Place.f (rd ((rd_T35 x39 x41).f1) 0)).bind fun t413 => (if t413 = x6 then (if 0 ≤ ((rd_T35 x39 x41).f0) then (if ((rd_T35 x39 x41).f0) < (x3.length : Int) then (if (rdOf false x3 ((rd_T35 x39 x41).f0) = true) then (wickerlaw11_CornerRow.l2 k x3 x4 x5 x6 x7 x29 x30 x39 x40 (wrap64 (x41 + 1)) x398000 x398001 x398002 x398003) else (wickerlaw11_CornerRow.l2 k x3 x4 x5 x6 false x29 x30 x39 x40 (wrap64 (x41 + 1)) x398000 x398001 x398002 x398003)) else (none)) else (none)) else (wickerlaw11_CornerRow.l2 k x3 x4 x5 x6 x7 x29 x30 x39 x40 (wrap64 (x41 + 1)) x398000 x398001 x398002 x398003))))) else (none)) else (wickerlaw11_CornerRow.l2 k x3 x4 x5 x6 x7 x29 x30 x39 x40 (wrap64 (x41 + 1)) x398000 x398001 x398002 x398003)) else (none)) else (none)) else (if x7 = true then (if 0 ≤ x6 then (if x6 < (x3.length : Int) then (wickerlaw11_CornerRow.l1 k (x3.set (x6 : Int).toNat true) (wrap64 (x4 - 1)) true x29 (wrap64 (x30 + 1)) x398000 x398001 x398002 x398003) else (none)) else (none)) else (wickerlaw11_CornerRow.l1 k x3 x4 x5 x29 (wrap64 (x30 + 1)) x398000 x398001 x398002 x398003))
end
def wickerlaw11_CornerRow.f (k : Nat) (l0_0 : List ByteArray) (l0_1 : List ByteArray) (a0_2 : Int) (l0_3 : List (S35)) : Option (Bool) := (wickerlaw02_Small.f k l0_0 l0_1 a0_2 l0_3).bind fun t398 => (if t398 = true then ((wickerlaw02_May.f l0_0 l0_1 a0_2 l0_3).bind fun t399 => (wickerlaw11_CornerRow.j0 k (!t399) l0_0 l0_1 a0_2 l0_3)) else (wickerlaw11_CornerRow.j0 k true l0_0 l0_1 a0_2 l0_3))
set_option maxHeartbeats 8000000 in
set_option maxRecDepth 100000 in
theorem wickerlaw11_CornerRow.calls (k : Nat) (A0_0 : Option Addr) (c0_0 : Nat) (l0_0 : List ByteArray) (A0_1 : Option Addr) (c0_1 : Nat) (l0_1 : List ByteArray) (a0_2 : Int) (A0_3 : Option Addr) (c0_3 : Nat) (l0_3 : List (S35)) (r : Bool) (w : World) (hG : Laid w) (hr0_0 : Kd.C Kd.string w A0_0 l0_0.length l0_0) (hc0_0 : l0_0.length ≤ c0_0) (hr0_1 : Kd.C Kd.string w A0_1 l0_1.length l0_1) (hc0_1 : l0_1.length ≤ c0_1) (hr0_3 : Kd.C k35 w A0_3 l0_3.length l0_3) (hc0_3 : l0_3.length ≤ c0_3) (h : wickerlaw11_CornerRow.f k l0_0 l0_1 a0_2 l0_3 = some r) :
  Calls Tryd.prog 8 #[.agg #[.slice A0_0 l0_0.length c0_0, .slice A0_1 l0_1.length c0_1, .int .i64 a0_2, .slice A0_3 l0_3.length c0_3]] w fun e w' => e = .returned (.bool r) ∧ Below w.heap.size w w' := by
 have hu25 := Tryd.underlying25
 have hu35 := Tryd.underlying35
 have HG := Aside0.mk hG
 clear hG
 have HR0_0 := Aside0.mk hr0_0
 have HC0_0 := Aside0.mk hc0_0
 clear hr0_0 hc0_0
 have HR0_1 := Aside0.mk hr0_1
 have HC0_1 := Aside0.mk hc0_1
 clear hr0_1 hc0_1
 have HR0_3 := Aside0.mk hr0_3
 have HC0_3 := Aside0.mk hc0_3
 clear hr0_3 hc0_3
 have HB := Aside0.mk (Below.refl w.heap.size w)
 have H : ((wickerlaw02_Small.f k l0_0 l0_1 a0_2 l0_3).bind fun t398 => (if t398 = true then ((wickerlaw02_May.f l0_0 l0_1 a0_2 l0_3).bind fun t399 => (wickerlaw11_CornerRow.j0 k (!t399) l0_0 l0_1 a0_2 l0_3)) else (wickerlaw11_CornerRow.j0 k true l0_0 l0_1 a0_2 l0_3))) = some r := h
 clear h
 have HC2 := Aside0.mk H
 clear H
 go_enter Tryd.func8, Tryd.ntmps8
 go_upto_region 1 with (first | ((with_reducible refine gate_dst (N := 1) rfl ?_); refine box_event ?hg (N := 1) ?hd (cs := #[.slice A0_0 l0_0.length c0_0, .slice A0_1 l0_1.length c0_1, .int .i64 a0_2, .slice A0_3 l0_3.length c0_3]) (t := 25) ?hr ?_; (case hd => rfl); (case hg => rfl); (case hr => first | (go_simp; done) | (go_simp; rfl)); intro gb397 hg w3 hbox hb; have n0_ := Aside0.mk (below_step (by repeat (first | (with_reducible first | exact HB.out | apply below_alloc | apply pw_below_drewN | apply below_drew1) | exact HB.out)) hb); have n1_ := Aside0.mk (hbox); have n2_ := Aside0.mk ((by rw [hg]; exact (below_size (by repeat (first | (with_reducible first | exact HB.out | apply below_alloc | apply pw_below_drewN | apply below_drew1) | exact HB.out))) : w.heap.size ≤ gb397)); have n3_ := Aside0.mk ((by rw [hg]; exact (below_size (by repeat (first | (with_reducible first | exact HB.out | apply below_alloc | apply pw_below_drewN | apply below_drew1) | exact HB.out))) : w.heap.size ≤ gb397)); clear HB; have HB := n0_; have BK397 := n1_; have GW397 := n2_; have GE397 := n3_; clear n0_ n1_ n2_ n3_; clear hb hbox hg))
 (try simp only [Act.put, List.setIfInBounds_toArray, List.set_cons_zero, List.set_cons_succ])
 go_cut [17] (fun v17 wc => ∃ (kq : Nat) (x17_1 : Bool), v17 = .bool x17_1 ∧ Aside0 (wickerlaw11_CornerRow.j0 kq x17_1 l0_0 l0_1 a0_2 l0_3 = some r) ∧ Aside0 (kq ≤ k) ∧ Aside0 (wc.heap[gb397]? = some (.cells #[(.slice A0_0 l0_0.length c0_0), (.slice A0_1 l0_1.length c0_1), .int .i64 a0_2, (.slice A0_3 l0_3.length c0_3)] 25 (0, 0))) ∧ Aside0 (Below w.heap.size w wc))
 case first =>
  have H := HC2.out
  clear HC2
  replace H := Option.bind_eq_some_iff.mp H
  obtain ⟨t398, A40, H⟩ := H
  replace H : (if t398 = true then ((wickerlaw02_May.f l0_0 l0_1 a0_2 l0_3).bind fun t399 => (wickerlaw11_CornerRow.j0 k (!t399) l0_0 l0_1 a0_2 l0_3)) else (wickerlaw11_CornerRow.j0 k true l0_0 l0_1 a0_2 l0_3)) = some r := H
  have A4 := Aside0.mk A40
  clear A40
  by_cases c5 : t398 = true
  ·subst c5
   have H1 : ((wickerlaw02_May.f l0_0 l0_1 a0_2 l0_3).bind fun t399 => (wickerlaw11_CornerRow.j0 k (!t399) l0_0 l0_1 a0_2 l0_3)) = some r := by rw [if_pos rfl] at H; exact H
   clear H
   have H := H1
   clear H1
   replace H := Option.bind_eq_some_iff.mp H
   obtain ⟨t399, A60, H⟩ := H
   replace H : (wickerlaw11_CornerRow.j0 k (!t399) l0_0 l0_1 a0_2 l0_3) = some r := H
   have A6 := Aside0.mk A60
   clear A60
   have H' := Aside0.mk H
   clear H
   have hcz7_0 : w3.cell? ⟨gb397, 0, none⟩ = some (.slice A0_0 l0_0.length c0_0) := (blk_cell BK397.out 0).trans rfl
   have hcz7_1 : w3.cell? ⟨gb397, 1, none⟩ = some (.slice A0_1 l0_1.length c0_1) := (blk_cell BK397.out 1).trans rfl
   have hcz7_2 : w3.cell? ⟨gb397, 2, none⟩ = some (.int .i64 a0_2) := (blk_cell BK397.out 2).trans rfl
   have hcz7_3 : w3.cell? ⟨gb397, 3, none⟩ = some (.slice A0_3 l0_3.length c0_3) := (blk_cell BK397.out 3).trans rfl
   have hfz7_0 := blk_frozen BK397.out 0
   have hfz7_1 := blk_frozen BK397.out 1
   have hfz7_2 := blk_frozen BK397.out 2
   have hfz7_3 := blk_frozen BK397.out 3
   go_wp2_with (first | ((with_reducible refine gate_callee (f := 9) rfl ?_); refine goesL_ (some 11) rfl rfl Tryd.func9 (by kernel_rfl) rfl #[.agg #[.slice A0_0 l0_0.length c0_0, .slice A0_1 l0_1.length c0_1, .int .i64 a0_2, .slice A0_3 l0_3.length c0_3]] rfl (by (try simp only [List.map_toArray, List.map_cons, List.map_nil]); first | done | rfl | (simp only [List.length_drop, List.length_take]; rfl)) ?_; (with_reducible refine (wickerlaw02_Small.calls k _ _ l0_0 _ _ l0_1 a0_2 _ _ l0_3 true _ ?side1 ?side2 ?side3 ?side4 ?side5 ?side6 A4.out).mono ?_); (case side1 => repeat (first | exact (Kd.C_below HR0_0.out HB.out) | (with_reducible refine Kd.C_alloc ?_ _) | (with_reducible refine Kd.C_drewN ?_ _) | (with_reducible refine Kd.C_drew ?_))); (case side2 => exact HC0_0.out); (case side3 => repeat (first | exact (Kd.C_below HR0_1.out HB.out) | (with_reducible refine Kd.C_alloc ?_ _) | (with_reducible refine Kd.C_drewN ?_ _) | (with_reducible refine Kd.C_drew ?_))); (case side4 => exact HC0_1.out); (case side5 => repeat (first | exact (Kd.C_below HR0_3.out HB.out) | (with_reducible refine Kd.C_alloc ?_ _) | (with_reducible refine Kd.C_drewN ?_ _) | (with_reducible refine Kd.C_drew ?_))); (case side6 => exact HC0_3.out); rintro e w8 ⟨rfl, hb⟩; refine ⟨_, rfl, ?_⟩; have n0_ := Aside0.mk (blk_below (g := gb397) (o := .cells #[.slice A0_0 l0_0.length c0_0, .slice A0_1 l0_1.length c0_1, .int .i64 a0_2, .slice A0_3 l0_3.length c0_3] 25 (0, 0)) (by (with_reducible repeat (first | refine blk_drewN ?_ _ | refine blk_drew ?_ | refine blk_alloc ?_ _)); exact BK397.out) hb); have n1_ := Aside0.mk (below_step (by repeat (first | (with_reducible first | exact HB.out | apply below_alloc | apply pw_below_drewN | apply below_drew1 | refine below_set ?_ GE397.out) | exact HB.out)) hb); clear BK397; clear HB; have BK397 := n0_; have HB := n1_; clear n0_ n1_; (try clear hb); (try clear hb2); (try clear hk); (try clear hi); have hcz9_0 : w8.cell? ⟨gb397, 0, none⟩ = some (.slice A0_0 l0_0.length c0_0) := (blk_cell BK397.out 0).trans rfl; have hcz9_1 : w8.cell? ⟨gb397, 1, none⟩ = some (.slice A0_1 l0_1.length c0_1) := (blk_cell BK397.out 1).trans rfl; have hcz9_2 : w8.cell? ⟨gb397, 2, none⟩ = some (.int .i64 a0_2) := (blk_cell BK397.out 2).trans rfl; have hcz9_3 : w8.cell? ⟨gb397, 3, none⟩ = some (.slice A0_3 l0_3.length c0_3) := (blk_cell BK397.out 3).trans rfl; have hfz9_0 := blk_frozen BK397.out 0; have hfz9_1 := blk_frozen BK397.out 1; have hfz9_2 := blk_frozen BK397.out 2; have hfz9_3 := blk_frozen BK397.out 3) | (go_at_call 29; (with_reducible refine (wickerlaw02_May.calls _ _ l0_0 _ _ l0_1 a0_2 _ _ l0_3 t399 _ ?side1 ?side2 ?side3 ?side4 ?side5 ?side6 A6.out).mono ?_); (case side1 => repeat (first | exact (Kd.C_below HR0_0.out HB.out) | (with_reducible refine Kd.C_alloc ?_ _) | (with_reducible refine Kd.C_drewN ?_ _) | (with_reducible refine Kd.C_drew ?_))); (case side2 => exact HC0_0.out); (case side3 => repeat (first | exact (Kd.C_below HR0_1.out HB.out) | (with_reducible refine Kd.C_alloc ?_ _) | (with_reducible refine Kd.C_drewN ?_ _) | (with_reducible refine Kd.C_drew ?_))); (case side4 => exact HC0_1.out); (case side5 => repeat (first | exact (Kd.C_below HR0_3.out HB.out) | (with_reducible refine Kd.C_alloc ?_ _) | (with_reducible refine Kd.C_drewN ?_ _) | (with_reducible refine Kd.C_drew ?_))); (case side6 => exact HC0_3.out); rintro e w10 ⟨rfl, hb⟩; have n0_ := Aside0.mk (blk_below (g := gb397) (o := .cells #[.slice A0_0 l0_0.length c0_0, .slice A0_1 l0_1.length c0_1, .int .i64 a0_2, .slice A0_3 l0_3.length c0_3] 25 (0, 0)) (by (with_reducible repeat (first | refine blk_drewN ?_ _ | refine blk_drew ?_ | refine blk_alloc ?_ _)); exact BK397.out) hb); have n1_ := Aside0.mk (below_step (by repeat (first | (with_reducible first | exact HB.out | apply below_alloc | apply pw_below_drewN | apply below_drew1 | refine below_set ?_ GE397.out) | exact HB.out)) hb); clear BK397; clear HB; have BK397 := n0_; have HB := n1_; clear n0_ n1_; (try clear hb); (try clear hb2); (try clear hk); (try clear hi)))
   go_meet
   case rel => exact ⟨_, (!t399), (by first | rfl | (simp; done) | (simp [*]; done)), H', ⟨by first | omega | exact Nat.le_refl _⟩, ⟨by (with_reducible repeat (first | refine blk_drewN ?_ _ | refine blk_drew ?_ | refine blk_alloc ?_ _)); exact BK397.out⟩, ⟨by repeat (first | (with_reducible first | exact HB.out | apply below_alloc | apply pw_below_drewN | apply below_drew1 | refine below_set ?_ GE397.out) | exact HB.out)⟩⟩
  ·replace c5 := Bool.eq_false_iff.mpr c5
   subst c5
   have H1 : (wickerlaw11_CornerRow.j0 k true l0_0 l0_1 a0_2 l0_3) = some r := by rw [if_neg (show ¬ (false = true) by decide)] at H; exact H
   clear H
   have H := H1
   clear H1
   have H' := Aside0.mk H
   clear H
   have hcz11_0 : w3.cell? ⟨gb397, 0, none⟩ = some (.slice A0_0 l0_0.length c0_0) := (blk_cell BK397.out 0).trans rfl
   have hcz11_1 : w3.cell? ⟨gb397, 1, none⟩ = some (.slice A0_1 l0_1.length c0_1) := (blk_cell BK397.out 1).trans rfl
   have hcz11_2 : w3.cell? ⟨gb397, 2, none⟩ = some (.int .i64 a0_2) := (blk_cell BK397.out 2).trans rfl
   have hcz11_3 : w3.cell? ⟨gb397, 3, none⟩ = some (.slice A0_3 l0_3.length c0_3) := (blk_cell BK397.out 3).trans rfl
   have hfz11_0 := blk_frozen BK397.out 0
   have hfz11_1 := blk_frozen BK397.out 1
   have hfz11_2 := blk_frozen BK397.out 2
   have hfz11_3 := blk_frozen BK397.out 3
   go_wp2_with (first | ((with_reducible refine gate_callee (f := 9) rfl ?_); refine goesL_ (some 11) rfl rfl Tryd.func9 (by kernel_rfl) rfl #[.agg #[.slice A0_0 l0_0.length c0_0, .slice A0_1 l0_1.length c0_1, .int .i64 a0_2, .slice A0_3 l0_3.length c0_3]] rfl (by (try simp only [List.map_toArray, List.map_cons, List.map_nil]); first | done | rfl | (simp only [List.length_drop, List.length_take]; rfl)) ?_; (with_reducible refine (wickerlaw02_Small.calls k _ _ l0_0 _ _ l0_1 a0_2 _ _ l0_3 false _ ?side1 ?side2 ?side3 ?side4 ?side5 ?side6 A4.out).mono ?_); (case side1 => repeat (first | exact (Kd.C_below HR0_0.out HB.out) | (with_reducible refine Kd.C_alloc ?_ _) | (with_reducible refine Kd.C_drewN ?_ _) | (with_reducible refine Kd.C_drew ?_))); (case side2 => exact HC0_0.out); (case side3 => repeat (first | exact (Kd.C_below HR0_1.out HB.out) | (with_reducible refine Kd.C_alloc ?_ _) | (with_reducible refine Kd.C_drewN ?_ _) | (with_reducible refine Kd.C_drew ?_))); (case side4 => exact HC0_1.out); (case side5 => repeat (first | exact (Kd.C_below HR0_3.out HB.out) | (with_reducible refine Kd.C_alloc ?_ _) | (with_reducible refine Kd.C_drewN ?_ _) | (with_reducible refine Kd.C_drew ?_))); (case side6 => exact HC0_3.out); rintro e w12 ⟨rfl, hb⟩; refine ⟨_, rfl, ?_⟩; have n0_ := Aside0.mk (blk_below (g := gb397) (o := .cells #[.slice A0_0 l0_0.length c0_0, .slice A0_1 l0_1.length c0_1, .int .i64 a0_2, .slice A0_3 l0_3.length c0_3] 25 (0, 0)) (by (with_reducible repeat (first | refine blk_drewN ?_ _ | refine blk_drew ?_ | refine blk_alloc ?_ _)); exact BK397.out) hb); have n1_ := Aside0.mk (below_step (by repeat (first | (with_reducible first | exact HB.out | apply below_alloc | apply pw_below_drewN | apply below_drew1 | refine below_set ?_ GE397.out) | exact HB.out)) hb); clear BK397; clear HB; have BK397 := n0_; have HB := n1_; clear n0_ n1_; (try clear hb); (try clear hb2); (try clear hk); (try clear hi)))
   go_meet
   case rel => exact ⟨_, (true), (by first | rfl | (simp; done) | (simp [*]; done)), H', ⟨by first | omega | exact Nat.le_refl _⟩, ⟨by (with_reducible repeat (first | refine blk_drewN ?_ _ | refine blk_drew ?_ | refine blk_alloc ?_ _)); exact BK397.out⟩, ⟨by repeat (first | (with_reducible first | exact HB.out | apply below_alloc | apply pw_below_drewN | apply below_drew1 | refine below_set ?_ GE397.out) | exact HB.out)⟩⟩
 case rest =>
  clear HC2
  try clear p2
  try clear c5
  try clear c8
  try clear c9
  try clear hcz11_0
  try clear hcz11_1
  try clear hcz11_2
  try clear hcz11_3
  try clear hcz7_0
  try clear hcz7_1
  try clear hcz7_2
  try clear hcz7_3
  try clear hcz9_0
  try clear hcz9_1
  try clear hcz9_2
  try clear hcz9_3
  try clear hfz11_0
  try clear hfz11_1
  try clear hfz11_2
  try clear hfz11_3
  try clear hfz7_0
  try clear hfz7_1
  try clear hfz7_2
  try clear hfz7_3
  try clear hfz9_0
  try clear hfz9_1
  try clear hfz9_2
  try clear hfz9_3
  obtain ⟨kq, x17_1, rfl, HA, HJ1, BK397, HB⟩ := hcut
  cases kq with
  | zero => exact absurd HA.out (by simp [wickerlaw11_CornerRow.j0])
  | succ kj1 =>
   have H := HA.out
   clear HA
   simp only [wickerlaw11_CornerRow.j0] at H
   by_cases c13 : x17_1 = true
   ·subst c13
    have H1 : ((wickerlaw11_Awake.f kj1).bind fun t400 => (some t400)) = some r := by rw [if_pos rfl] at H; exact H
    clear H
    have H := H1
    clear H1
    replace H := Option.bind_eq_some_iff.mp H
    obtain ⟨t400, A140, H⟩ := H
    replace H : (some t400) = some r := H
    have A14 := Aside0.mk A140
    clear A140
    obtain rfl := Option.some.inj H
    go_wp2_with (first | ((with_reducible refine gate_callee (f := 35) rfl ?_); refine goesL_ (some 18) rfl rfl Tryd.func35 (by kernel_rfl) rfl #[] rfl (by (try simp only [List.map_toArray, List.map_cons, List.map_nil]); first | done | rfl | (simp only [List.length_drop, List.length_take]; rfl)) ?_; (with_reducible refine (wickerlaw11_Awake.calls kj1  t400 _ ?side1 A14.out).mono ?_); (case side1 => exact Laid.below HG.out (by repeat (first | (with_reducible first | exact HB.out | apply below_alloc | apply pw_below_drewN | apply below_drew1 | refine below_set ?_ GE397.out) | exact HB.out))); rintro e w15 ⟨rfl, hb⟩; refine ⟨_, rfl, ?_⟩; have n0_ := Aside0.mk (blk_below (g := gb397) (o := .cells #[.slice A0_0 l0_0.length c0_0, .slice A0_1 l0_1.length c0_1, .int .i64 a0_2, .slice A0_3 l0_3.length c0_3] 25 (0, 0)) (by (with_reducible repeat (first | refine blk_drewN ?_ _ | refine blk_drew ?_ | refine blk_alloc ?_ _)); exact BK397.out) hb); have n1_ := Aside0.mk (below_step (by repeat (first | (with_reducible first | exact HB.out | apply below_alloc | apply pw_below_drewN | apply below_drew1 | refine below_set ?_ GE397.out) | exact HB.out)) hb); clear BK397; clear HB; have BK397 := n0_; have HB := n1_; clear n0_ n1_; (try clear hb); (try clear hb2); (try clear hk); (try clear hi)))
    go_ret
    exact ⟨by first | rfl | (simp [errW_none, errW_some] <;> rfl) | (simp [*, errW_none, errW_some] <;> rfl), by repeat (first | (with_reducible first | exact HB.out | apply below_alloc | apply pw_below_drewN | apply below_drew1 | refine below_set ?_ GE397.out) | exact HB.out)⟩
   ·replace c13 := Bool.eq_false_iff.mpr c13
    subst c13
    have H1 : (if 0 ≤ (l0_0.length : Int) then (if ((l0_0.length : Int) : Int).toNat ≤ 281474976710656 then (wickerlaw11_CornerRow.l0 kj1 (List.replicate ((l0_0.length : Int) : Int).toNat false) (l0_0.length : Int) true l0_0 l0_1 a0_2 l0_3) else (none)) else (none)) = some r := by rw [if_neg (show ¬ (false = true) by decide)] at H; exact H
    clear H
    have H := H1
    clear H1
    by_cases c16 : 0 ≤ (l0_0.length : Int)
    ·rw [if_pos c16] at H
     have c16b0 := eq_true c16
     have c16b1 : decide (0 ≤ (l0_0.length : Int)) = true := decide_eq_true c16
     clear c16
     by_cases c17 : ((l0_0.length : Int) : Int).toNat ≤ 281474976710656
     ·rw [if_pos c17] at H
      have c17b0 := eq_true c17
      have c17b1 : decide (((l0_0.length : Int) : Int).toNat ≤ 281474976710656) = true := decide_eq_true c17
      clear c17
      obtain ⟨y401, hy401⟩ : ∃ y_ : List Bool, y_ = (List.replicate ((l0_0.length : Int) : Int).toNat false) := ⟨_, rfl⟩
      replace H : (wickerlaw11_CornerRow.l0 kj1 y401 (l0_0.length : Int) true l0_0 l0_1 a0_2 l0_3) = some r := by first | (rw [hy401]; with_reducible exact H) | (have H2_ := (Option.bind_some _ _).symm.trans H; rw [hy401]; with_reducible exact H2_) | (have H2_ := (Option.bind_some _ _).symm.trans H; with_reducible exact H2_) | with_reducible exact H | (rw [hy401]; exact H) | exact H
      have Ny401 := Aside0.mk hy401
      clear hy401
      have H' := Aside0.mk H
      clear H
      have hcz18_0 : wc.cell? ⟨gb397, 0, none⟩ = some (.slice A0_0 l0_0.length c0_0) := (blk_cell BK397.out 0).trans rfl
      have hcz18_1 : wc.cell? ⟨gb397, 1, none⟩ = some (.slice A0_1 l0_1.length c0_1) := (blk_cell BK397.out 1).trans rfl
      have hcz18_2 : wc.cell? ⟨gb397, 2, none⟩ = some (.int .i64 a0_2) := (blk_cell BK397.out 2).trans rfl
      have hcz18_3 : wc.cell? ⟨gb397, 3, none⟩ = some (.slice A0_3 l0_3.length c0_3) := (blk_cell BK397.out 3).trans rfl
      have hfz18_0 := blk_frozen BK397.out 0
      have hfz18_1 := blk_frozen BK397.out 1
      have hfz18_2 := blk_frozen BK397.out 2
      have hfz18_3 := blk_frozen BK397.out 3
      go_wp2_with (first | ((with_reducible refine gate_dst (N := 22) rfl ?_); refine Kd.R_make Kd.bool _ 4 rfl (N := 22) rfl 57 _ _ rfl (l0_0.length : Int) rfl rfl Tryd.underlying57 (.bool false) 1 info4 rfl (by decide) (by omega) false (ok := fun _ => True) (okp := fun _ => True) rfl (fun _ hk => hk) trivial (of_decide_eq_true (by first | (with_reducible assumption) | assumption)) (Nat.le_trans (Nat.mul_le_mul_right _ (of_decide_eq_true (by first | (with_reducible assumption) | assumption) : (l0_0.length : Int).toNat ≤ 281474976710656)) (by omega)) (Below.refl _ _) (Nat.le_refl _) ?_; intro v402 w19 ho20 hb hg_ hnew_; clear hg_ hnew_; (first | rw [← Ny401.out] at ho20 | (simp only [Int.reduceToNat] at ho20; rw [← Ny401.out] at ho20)); have n0_ := Aside0.mk (Kd.R_lower ho20 (below_size (by repeat (first | (with_reducible first | exact HB.out | apply below_alloc | apply pw_below_drewN | apply below_drew1 | refine below_set ?_ GE397.out) | exact HB.out)))); have n1_ := Aside0.mk (blk_below (g := gb397) (o := .cells #[.slice A0_0 l0_0.length c0_0, .slice A0_1 l0_1.length c0_1, .int .i64 a0_2, .slice A0_3 l0_3.length c0_3] 25 (0, 0)) (by (with_reducible repeat (first | refine blk_drewN ?_ _ | refine blk_drew ?_ | refine blk_alloc ?_ _)); exact BK397.out) hb); have n2_ := Aside0.mk (below_step (by repeat (first | (with_reducible first | exact HB.out | apply below_alloc | apply pw_below_drewN | apply below_drew1 | refine below_set ?_ GE397.out) | exact HB.out)) hb); clear BK397; clear HB; have HO403 := n0_; have BK397 := n1_; have HB := n2_; clear n0_ n1_ n2_; clear hb ho20; have hcz21_0 : w19.cell? ⟨gb397, 0, none⟩ = some (.slice A0_0 l0_0.length c0_0) := (blk_cell BK397.out 0).trans rfl; have hcz21_1 : w19.cell? ⟨gb397, 1, none⟩ = some (.slice A0_1 l0_1.length c0_1) := (blk_cell BK397.out 1).trans rfl; have hcz21_2 : w19.cell? ⟨gb397, 2, none⟩ = some (.int .i64 a0_2) := (blk_cell BK397.out 2).trans rfl; have hcz21_3 : w19.cell? ⟨gb397, 3, none⟩ = some (.slice A0_3 l0_3.length c0_3) := (blk_cell BK397.out 3).trans rfl; have hfz21_0 := blk_frozen BK397.out 0; have hfz21_1 := blk_frozen BK397.out 1; have hfz21_2 := blk_frozen BK397.out 2; have hfz21_3 := blk_frozen BK397.out 3))
      go_loopg [4, 5] kj1 (fun kq v4 v5 w' => ∃ (x3_2 : List Bool) (x4_2 : Int) (x5_2 : Bool), v4 = .int .i64 x4_2 ∧ v5 = .bool x5_2 ∧ Aside0 (wickerlaw11_CornerRow.l0 kq x3_2 x4_2 x5_2 l0_0 l0_1 a0_2 l0_3 = some r) ∧ Aside0 (kq ≤ kj1) ∧ Aside0 (Kd.R Kd.bool 4 w' w.heap.size (fun _ => True) v402 x3_2) ∧ Aside0 (w'.heap[gb397]? = some (.cells #[(.slice A0_0 l0_0.length c0_0), (.slice A0_1 l0_1.length c0_1), .int .i64 a0_2, (.slice A0_3 l0_3.length c0_3)] 25 (0, 0))) ∧ Aside0 (Below w.heap.size w w'))
      case atStart => exact ⟨(y401), ((l0_0.length : Int)), (true), (by first | rfl | (simp; done) | (simp [*]; done)), (by first | rfl | (simp; done) | (simp [*]; done)), H', ⟨Nat.le_refl _⟩, ⟨by (with_reducible repeat (first | apply Kd.R_alloc | apply Kd.R_drewN | apply Kd.R_drew)); exact HO403.out⟩, ⟨by (with_reducible repeat (first | refine blk_drewN ?_ _ | refine blk_drew ?_ | refine blk_alloc ?_ _)); exact BK397.out⟩, ⟨by repeat (first | (with_reducible first | exact HB.out | apply below_alloc | apply pw_below_drewN | apply below_drew1 | refine below_set ?_ GE397.out) | exact HB.out)⟩⟩
      case round =>
       clear H'
       try clear c1
       try clear p2
       try clear c3
       try clear c5
       try clear c8
       try clear c9
       try clear c13
       try clear c16
       try clear c16b0
       try clear c16b1
       try clear c17
       try clear c17b0
       try clear c17b1
       try clear hcz11_0
       try clear hcz11_1
       try clear hcz11_2
       try clear hcz11_3
       try clear hcz18_0
       try clear hcz18_1
       try clear hcz18_2
       try clear hcz18_3
       try clear hcz21_0
       try clear hcz21_1
       try clear hcz21_2
       try clear hcz21_3
       try clear hcz7_0
       try clear hcz7_1
       try clear hcz7_2
       try clear hcz7_3
       try clear hcz9_0
       try clear hcz9_1
       try clear hcz9_2
       try clear hcz9_3
       try clear hfz11_0
       try clear hfz11_1
       try clear hfz11_2
       try clear hfz11_3
       try clear hfz18_0
       try clear hfz18_1
       try clear hfz18_2
       try clear hfz18_3
       try clear hfz21_0
       try clear hfz21_1
       try clear hfz21_2
       try clear hfz21_3
       try clear hfz7_0
       try clear hfz7_1
       try clear hfz7_2
       try clear hfz7_3
       try clear hfz9_0
       try clear hfz9_1
       try clear hfz9_2
       try clear hfz9_3
       try clear p2
       obtain ⟨x3_2, x4_2, x5_2, rfl, rfl, HA, HK2, HO_3, BK397, HB⟩ := hrel
       cases gk with
       | zero => exact absurd HA.out (by simp [wickerlaw11_CornerRow.l0])
       | succ k2 =>
        have H := HA.out
        clear HA
        simp only [wickerlaw11_CornerRow.l0] at H
        by_cases c22 : x5_2 = true
        ·subst c22
         have H1 : (wickerlaw11_CornerRow.l1 k2 x3_2 x4_2 false (l0_0.length : Int) 0 l0_0 l0_1 a0_2 l0_3) = some r := by rw [if_pos rfl] at H; exact H
         clear H
         have H := H1
         clear H1
         have H' := Aside0.mk H
         clear H
         have hcz23_0 : wr.cell? ⟨gb397, 0, none⟩ = some (.slice A0_0 l0_0.length c0_0) := (blk_cell BK397.out 0).trans rfl
         have hcz23_1 : wr.cell? ⟨gb397, 1, none⟩ = some (.slice A0_1 l0_1.length c0_1) := (blk_cell BK397.out 1).trans rfl
         have hcz23_2 : wr.cell? ⟨gb397, 2, none⟩ = some (.int .i64 a0_2) := (blk_cell BK397.out 2).trans rfl
         have hcz23_3 : wr.cell? ⟨gb397, 3, none⟩ = some (.slice A0_3 l0_3.length c0_3) := (blk_cell BK397.out 3).trans rfl
         have hfz23_0 := blk_frozen BK397.out 0
         have hfz23_1 := blk_frozen BK397.out 1
         have hfz23_2 := blk_frozen BK397.out 2
         have hfz23_3 := blk_frozen BK397.out 3
         go_wp2
         go_loopg [4, 5, 30] k2 (fun kq v4 v5 v30 w' => ∃ (x3_3 : List Bool) (x4_3 : Int) (x5_3 : Bool) (x30_3 : Int), v4 = .int .i64 x4_3 ∧ v5 = .bool x5_3 ∧ v30 = .int .i64 x30_3 ∧ Aside0 (wickerlaw11_CornerRow.l1 kq x3_3 x4_3 x5_3 (l0_0.length : Int) x30_3 l0_0 l0_1 a0_2 l0_3 = some r) ∧ Aside0 (kq ≤ k2) ∧ Aside0 (Kd.R Kd.bool 4 w' w.heap.size (fun _ => True) v402 x3_3) ∧ Aside0 (w'.heap[gb397]? = some (.cells #[(.slice A0_0 l0_0.length c0_0), (.slice A0_1 l0_1.length c0_1), .int .i64 a0_2, (.slice A0_3 l0_3.length c0_3)] 25 (0, 0))) ∧ Aside0 (Below w.heap.size w w'))
         case atStart => exact ⟨(x3_2), (x4_2), (false), (0), (by first | rfl | (simp; done) | (simp [*]; done)), (by first | rfl | (simp; done) | (simp [*]; done)), (by first | rfl | (simp; done) | (simp [*]; done)), H', ⟨Nat.le_refl _⟩, ⟨by (with_reducible repeat (first | apply Kd.R_alloc | apply Kd.R_drewN | apply Kd.R_drew)); exact HO_3.out⟩, ⟨by (with_reducible repeat (first | refine blk_drewN ?_ _ | refine blk_drew ?_ | refine blk_alloc ?_ _)); exact BK397.out⟩, ⟨by repeat (first | (with_reducible first | exact HB.out | apply below_alloc | apply pw_below_drewN | apply below_drew1 | refine below_set ?_ GE397.out) | exact HB.out)⟩⟩
         case round =>
          clear H'
          try clear c1
          try clear c2
          try clear p2
          try clear c3
          try clear c5
          try clear c8
          try clear c9
          try clear c13
          try clear c16
          try clear c16b0
          try clear c16b1
          try clear c17
          try clear c17b0
          try clear c17b1
          try clear c22
          try clear hcz11_0
          try clear hcz11_1
          try clear hcz11_2
          try clear hcz11_3
          try clear hcz18_0
          try clear hcz18_1
          try clear hcz18_2
          try clear hcz18_3
          try clear hcz21_0
          try clear hcz21_1
          try clear hcz21_2
          try clear hcz21_3
          try clear hcz23_0
          try clear hcz23_1
          try clear hcz23_2
          try clear hcz23_3
          try clear hcz7_0
          try clear hcz7_1
          try clear hcz7_2
          try clear hcz7_3
          try clear hcz9_0
          try clear hcz9_1
          try clear hcz9_2
          try clear hcz9_3
          try clear hfz11_0
          try clear hfz11_1
          try clear hfz11_2
          try clear hfz11_3
          try clear hfz18_0
          try clear hfz18_1
          try clear hfz18_2
          try clear hfz18_3
          try clear hfz21_0
          try clear hfz21_1
          try clear hfz21_2
          try clear hfz21_3
          try clear hfz23_0
          try clear hfz23_1
          try clear hfz23_2
          try clear hfz23_3
          try clear hfz7_0
          try clear hfz7_1
          try clear hfz7_2
          try clear hfz7_3
          try clear hfz9_0
          try clear hfz9_1
          try clear hfz9_2
          try clear hfz9_3
          try clear p2
          obtain ⟨x3_3, x4_3, x5_3, x30_3, rfl, rfl, rfl, HA, HK3, HO_3, BK397, HB⟩ := hrel
          cases gk with
          | zero => exact absurd HA.out (by simp [wickerlaw11_CornerRow.l1])
          | succ k3 =>
           have H := HA.out
           clear HA
           simp only [wickerlaw11_CornerRow.l1] at H
           by_cases c24 : x30_3 < (l0_0.length : Int)
           ·rw [if_pos c24] at H
            have c24b0 : decide (x30_3 < (l0_0.length : Int)) = true := decide_eq_true c24
            clear c24
            by_cases c25 : 0 ≤ x30_3
            ·rw [if_pos c25] at H
             have c25b0 : decide (0 ≤ x30_3) = true := decide_eq_true c25
             clear c25
             by_cases c26 : x30_3 < (x3_3.length : Int)
             ·rw [if_pos c26] at H
              have c26b0 : decide (x30_3 < (x3_3.length : Int)) = true := decide_eq_true c26
              clear c26
              have H' := Aside0.mk H
              clear H
              obtain ⟨Ao27, co27, eo27⟩ := Kd.R_slice HO_3.out
              subst eo27
              have p406 : 0 ≤ (x30_3 : Int) := of_decide_eq_true (by first | (with_reducible assumption) | assumption)
              have q406 : x30_3 < (x3_3.length : Int) := of_decide_eq_true (by first | (with_reducible assumption) | assumption)
              obtain ⟨ad406, e406, hx406_0⟩ := Kd.at_bool (Kd.R_reads' HO_3.out).2.2 x30_3 p406 q406
              cases e406
              replace p406 := eq_true p406
              replace q406 := eq_true q406
              have hcz28_0 : wr.cell? ⟨gb397, 0, none⟩ = some (.slice A0_0 l0_0.length c0_0) := (blk_cell BK397.out 0).trans rfl
              have hcz28_1 : wr.cell? ⟨gb397, 1, none⟩ = some (.slice A0_1 l0_1.length c0_1) := (blk_cell BK397.out 1).trans rfl
              have hcz28_2 : wr.cell? ⟨gb397, 2, none⟩ = some (.int .i64 a0_2) := (blk_cell BK397.out 2).trans rfl
              have hcz28_3 : wr.cell? ⟨gb397, 3, none⟩ = some (.slice A0_3 l0_3.length c0_3) := (blk_cell BK397.out 3).trans rfl
              have hfz28_0 := blk_frozen BK397.out 0
              have hfz28_1 := blk_frozen BK397.out 1
              have hfz28_2 := blk_frozen BK397.out 2
              have hfz28_3 := blk_frozen BK397.out 3
              go_wp2
              go_loopg [7, 41] k3 (fun kq v7 v41 w' => ∃ (x7_4 : Bool) (x41_4 : Int), v7 = .bool x7_4 ∧ v41 = .int .i64 x41_4 ∧ Aside0 (wickerlaw11_CornerRow.l2 kq x3_3 x4_3 x5_3 x30_3 x7_4 (l0_0.length : Int) x30_3 l0_3 (l0_3.length : Int) x41_4 l0_0 l0_1 a0_2 l0_3 = some r) ∧ Aside0 (kq ≤ k3) ∧ Aside0 (Kd.R Kd.bool 4 w' w.heap.size (fun _ => True) (.slice (some ad406) x3_3.length co27) x3_3) ∧ Aside0 (w'.heap[gb397]? = some (.cells #[(.slice A0_0 l0_0.length c0_0), (.slice A0_1 l0_1.length c0_1), .int .i64 a0_2, (.slice A0_3 l0_3.length c0_3)] 25 (0, 0))) ∧ Aside0 (Below w.heap.size w w'))
              case atStart => exact ⟨(!(rdOf false x3_3 x30_3)), (0), (by first | rfl | (simp; done) | (simp [*]; done)), (by first | rfl | (simp; done) | (simp [*]; done)), H', ⟨Nat.le_refl _⟩, ⟨by (with_reducible repeat (first | apply Kd.R_alloc | apply Kd.R_drewN | apply Kd.R_drew)); exact HO_3.out⟩, ⟨by (with_reducible repeat (first | refine blk_drewN ?_ _ | refine blk_drew ?_ | refine blk_alloc ?_ _)); exact BK397.out⟩, ⟨by repeat (first | (with_reducible first | exact HB.out | apply below_alloc | apply pw_below_drewN | apply below_drew1 | refine below_set ?_ GE397.out) | exact HB.out)⟩⟩
              case round =>
               clear H'
               try clear c1
               try clear c2
               try clear p2
               try clear c3
               try clear p4
               try clear q4
               try clear hx4
               try clear c5
               try clear c8
               try clear c9
               try clear c13
               try clear c16
               try clear c16b0
               try clear c16b1
               try clear c17
               try clear c17b0
               try clear c17b1
               try clear c22
               try clear c24
               try clear c24b0
               try clear c25
               try clear c25b0
               try clear c26
               try clear c26b0
               try clear hcz11_0
               try clear hcz11_1
               try clear hcz11_2
               try clear hcz11_3
               try clear hcz18_0
               try clear hcz18_1
               try clear hcz18_2
               try clear hcz18_3
               try clear hcz21_0
               try clear hcz21_1
               try clear hcz21_2
               try clear hcz21_3
               try clear hcz23_0
               try clear hcz23_1
               try clear hcz23_2
               try clear hcz23_3
               try clear hcz28_0
               try clear hcz28_1
               try clear hcz28_2
               try clear hcz28_3
               try clear hcz7_0
               try clear hcz7_1
               try clear hcz7_2
               try clear hcz7_3
               try clear hcz9_0
               try clear hcz9_1
               try clear hcz9_2
               try clear hcz9_3
               try clear hfz11_0
               try clear hfz11_1
               try clear hfz11_2
               try clear hfz11_3
               try clear hfz18_0
               try clear hfz18_1
               try clear hfz18_2
               try clear hfz18_3
               try clear hfz21_0
               try clear hfz21_1
               try clear hfz21_2
               try clear hfz21_3
               try clear hfz23_0
               try clear hfz23_1
               try clear hfz23_2
               try clear hfz23_3
               try clear hfz28_0
               try clear hfz28_1
               try clear hfz28_2
               try clear hfz28_3
               try clear hfz7_0
               try clear hfz7_1
               try clear hfz7_2
               try clear hfz7_3
               try clear hfz9_0
               try clear hfz9_1
               try clear hfz9_2
               try clear hfz9_3
               try clear hx406_0
               try clear p2
               try clear p406
               try clear q406
               obtain ⟨x7_4, x41_4, rfl, rfl, HA, HK4, HO_3, BK397, HB⟩ := hrel
               cases gk with
               | zero => exact absurd HA.out (by simp [wickerlaw11_CornerRow.l2])
               | succ k4 =>
                have H := HA.out
                clear HA
                simp only [wickerlaw11_CornerRow.l2] at H
                by_cases c29 : x41_4 < (l0_3.length : Int)
                ·rw [if_pos c29] at H
                 have c29b0 : decide (x41_4 < (l0_3.length : Int)) = true := decide_eq_true c29
                 clear c29
                 by_cases c30 : 0 ≤ x41_4
                 ·rw [if_pos c30] at H
                  have c30b0 : decide (0 ≤ x41_4) = true := decide_eq_true c30
                  clear c30
                  by_cases c31 : x41_4 < (l0_3.length : Int)
                  ·rw [if_pos c31] at H
                   have c31b0 : decide (x41_4 < (l0_3.length : Int)) = true := decide_eq_true c31
                   clear c31
                   by_cases c32 : (((rd_T35 l0_3 x41_4).f1).length : Int) > 0
                   ·rw [if_pos c32] at H
                    have c32b0 : decide (0 < (((rd_T35 l0_3 x41_4).f1).length : Int)) = true := decide_eq_true c32
                    have c32b1 : decide (0 < ((rd_T35 l0_3 x41_4).f1).length) = true := decide_eq_true (by omega)
                    clear c32
                    by_cases c33 : 0 < (((rd_T35 l0_3 x41_4).f1).length : Int)
                    ·rw [if_pos c33] at H
                     have c33b0 : decide (0 < (((rd_T35 l0_3 x41_4).f1).length : Int)) = true := decide_eq_true c33
                     have c33b1 : decide (0 < ((rd_T35 l0_3 x41_4).f1).length) = true := decide_eq_true (by omega)
                     clear c33
                     replace H := Option.bind_eq_some_iff.mp H
                     obtain ⟨t411, A340, H⟩ := H
                     replace H : (if t411 = true then (wickerlaw11_CornerRow.l2 k4 x3_3 x4_3 x5_3 x30_3 x7_4 (l0_0.length : Int) x30_3 l0_3 (l0_3.length : Int) (wrap64 (x41_4 + 1)) l0_0 l0_1 a0_2 l0_3) else ((gram_Sym_Place.f (rd ((rd_T35 l0_3 x41_4).f1) 0)).bind fun t413 => (if t413 = x30_3 then (if 0 ≤ ((rd_T35 l0_3 x41_4).f0) then (if ((rd_T35 l0_3 x41_4).f0) < (x3_3.length : Int) then (if (rdOf false x3_3 ((rd_T35 l0_3 x41_4).f0) = true) then (wickerlaw11_CornerRow.l2 k4 x3_3 x4_3 x5_3 x30_3 x7_4 (l0_0.length : Int) x30_3 l0_3 (l0_3.length : Int) (wrap64 (x41_4 + 1)) l0_0 l0_1 a0_2 l0_3) else (wickerlaw11_CornerRow.l2 k4 x3_3 x4_3 x5_3 x30_3 false (l0_0.length : Int) x30_3 l0_3 (l0_3.length : Int) (wrap64 (x41_4 + 1)) l0_0 l0_1 a0_2 l0_3)) else (none)) else (none)) else (wickerlaw11_CornerRow.l2 k4 x3_3 x4_3 x5_3 x30_3 x7_4 (l0_0.length : Int) x30_3 l0_3 (l0_3.length : Int) (wrap64 (x41_4 + 1)) l0_0 l0_1 a0_2 l0_3)))) = some r := H
                     have A34 := Aside0.mk A340
                     clear A340
                     by_cases c35 : t411 = true
                     ·subst c35
                      have H1 : (wickerlaw11_CornerRow.l2 k4 x3_3 x4_3 x5_3 x30_3 x7_4 (l0_0.length : Int) x30_3 l0_3 (l0_3.length : Int) (wrap64 (x41_4 + 1)) l0_0 l0_1 a0_2 l0_3) = some r := by rw [if_pos rfl] at H; exact H
                      clear H
                      have H := H1
                      clear H1
                      have H' := Aside0.mk H
                      clear H
                      have p408 : 0 ≤ (x41_4 : Int) := of_decide_eq_true (by first | (with_reducible assumption) | assumption)
                      have q408 : x41_4 < (l0_3.length : Int) := of_decide_eq_true (by first | (with_reducible assumption) | assumption)
                      obtain ⟨ad408, A408_1, c408_1, e408, hx408_0, hx408_1, hl408_1, hi408_1⟩ := at_T35 HR0_3.out x41_4 p408 q408
                      cases e408
                      replace hx408_0 := (HB.out.cell (World.block_lt_of_cell? w _ hx408_0)).trans hx408_0
                      replace hx408_1 := (HB.out.cell (World.block_lt_of_cell? w _ hx408_1)).trans hx408_1
                      have HR408_1 := Aside0.mk hi408_1
                      have HC408_1 := Aside0.mk hl408_1
                      clear hi408_1 hl408_1
                      replace p408 := eq_true p408
                      replace q408 := eq_true q408
                      go_wp2_with (first | ((with_reducible refine gate_dst (N := 9) rfl ?_); refine box_event ?hg (N := 9) ?hd (cs := #[.int .i64 0, .slice none 0 0]) (t := 35) ?hr ?_; (case hd => rfl); (case hg => rfl); (case hr => first | (go_simp; done) | (go_simp; rfl)); intro gb409 hg w36 hbox hb; have n0_ := Aside0.mk (Kd.R_below (by (with_reducible repeat (first | apply Kd.R_alloc | apply Kd.R_drewN | apply Kd.R_drew)); exact HO_3.out) hb); have n1_ := Aside0.mk (blk_below (g := gb397) (o := .cells #[.slice A0_0 l0_0.length c0_0, .slice A0_1 l0_1.length c0_1, .int .i64 a0_2, .slice (some ad408) l0_3.length c0_3] 25 (0, 0)) (by (with_reducible repeat (first | refine blk_drewN ?_ _ | refine blk_drew ?_ | refine blk_alloc ?_ _)); exact BK397.out) hb); have n2_ := Aside0.mk (below_step (by repeat (first | (with_reducible first | exact HB.out | apply below_alloc | apply pw_below_drewN | apply below_drew1 | refine below_set ?_ GE397.out) | exact HB.out)) hb); have n3_ := Aside0.mk (hbox); have n4_ := Aside0.mk ((by rw [hg]; exact (below_size (by repeat (first | (with_reducible first | exact HB.out | apply below_alloc | apply pw_below_drewN | apply below_drew1 | refine below_set ?_ GE397.out) | exact HB.out))) : w.heap.size ≤ gb409)); have n5_ := Aside0.mk ((by rw [hg]; exact (below_size (by repeat (first | (with_reducible first | exact HB.out | apply below_alloc | apply pw_below_drewN | apply below_drew1 | refine below_set ?_ GE397.out) | exact HB.out))) : w.heap.size ≤ gb409)); have n6_ := Aside0.mk ((by rw [hg]; exact Nat.ne_of_lt (blk_lt (g := gb397) (o := .cells #[.slice A0_0 l0_0.length c0_0, .slice A0_1 l0_1.length c0_1, .int .i64 a0_2, .slice (some ad408) l0_3.length c0_3] 25 (0, 0)) (by (with_reducible repeat (first | refine blk_drewN ?_ _ | refine blk_drew ?_ | refine blk_alloc ?_ _)); exact BK397.out)) : gb397 ≠ gb409)); have n7_ := Aside0.mk ((by rw [hg]; exact Nat.ne_of_gt (blk_lt (g := gb397) (o := .cells #[.slice A0_0 l0_0.length c0_0, .slice A0_1 l0_1.length c0_1, .int .i64 a0_2, .slice (some ad408) l0_3.length c0_3] 25 (0, 0)) (by (with_reducible repeat (first | refine blk_drewN ?_ _ | refine blk_drew ?_ | refine blk_alloc ?_ _)); exact BK397.out)) : gb409 ≠ gb397)); clear HO_3; clear BK397; clear HB; have HO_3 := n0_; have BK397 := n1_; have HB := n2_; have BK409 := n3_; have GW409 := n4_; have GE409 := n5_; have NB397_409 := n6_; have NB409_397 := n7_; clear n0_ n1_ n2_ n3_ n4_ n5_ n6_ n7_; clear hb hbox hg; have hnb37 := NB409_397.out; have hnc37 := NB397_409.out; have hcz38_0 : w36.cell? ⟨gb409, 0, none⟩ = some (.int .i64 0) := (blk_cell BK409.out 0).trans rfl; have hcz38_1 : w36.cell? ⟨gb409, 1, none⟩ = some (.slice none 0 0) := (blk_cell BK409.out 1).trans rfl; have hfz38_0 := blk_frozen BK409.out 0; have hfz38_1 := blk_frozen BK409.out 1; have p410 : 0 ≤ (0 : Int) := (by omega); have q410 : 0 < (((rd_T35 l0_3 x41_4).f1).length : Int) := of_decide_eq_true (by first | (with_reducible assumption) | assumption); obtain ⟨ad410, e410, hx410_0⟩ := Kd.at_int HR408_1.out 0 p410 q410; cases e410; have qi410 : (0 < ((rd_T35 l0_3 x41_4).f1).length) = True := eq_true (by omega); (try rw [show ((0 : Int)).toNat = 0 from rfl] at hx410_0); (try rw [Addr.add_zero'] at hx410_0); have hn410_0 : ad410.block ≠ gb409 := Nat.ne_of_lt (Nat.lt_of_lt_of_le (by have := World.block_lt_of_cell? _ _ hx410_0; first | rwa [add_block] at this | exact this) GW409.out); have hn410_1 : ad410.block ≠ gb409 := Nat.ne_of_lt (Nat.lt_of_lt_of_le (by have := World.block_lt_of_cell? _ _ hx410_0; first | rwa [add_block] at this | exact this) GW409.out); replace hx410_0 := (HB.out.cell (World.block_lt_of_cell? w _ hx410_0)).trans hx410_0; replace hx410_0 := (cell_far (p := ⟨gb409, 0, none⟩) (by first | (rw [add_block]; exact hn410_0) | (show (Addr.add _ _).block ≠ _; rw [add_block]; exact hn410_0) | exact hn410_0) (.int .i64 ((rd_T35 l0_3 x41_4).f0))).trans hx410_0; replace hx410_0 := (cell_far (p := ⟨gb409, 1, none⟩) (by first | (rw [add_block]; exact hn410_1) | (show (Addr.add _ _).block ≠ _; rw [add_block]; exact hn410_1) | exact hn410_1) (.slice (some ad410) ((rd_T35 l0_3 x41_4).f1).length c408_1)).trans hx410_0; clear hn410_0; clear hn410_1; replace p410 := eq_true p410; replace q410 := eq_true q410) | (go_at_call 33; (with_reducible refine (gram_Sym_IsTerm.calls (rd ((rd_T35 l0_3 x41_4).f1) 0) true _ A34.out).mono ?_); rintro e w' ⟨rfl, ⟨nd, rfl⟩⟩))
                      go_roundg k4
                      case measure => have := HJ1.out; have := HK2.out; have := HK3.out; have := HK4.out; omega
                      case rel => exact ⟨(x7_4), (wrap64 (x41_4 + 1)), (by first | rfl | (simp; done) | (simp [*]; done)), (by first | rfl | (simp; done) | (simp [*]; done)), H', ⟨by have := HJ1.out; have := HK2.out; have := HK3.out; have := HK4.out; omega⟩, ⟨by (with_reducible repeat (first | apply Kd.R_alloc | apply Kd.R_drewN | apply Kd.R_drew)); exact Kd.R_mono (Kd.R_far (p := ⟨gb409, 1, none⟩) (Kd.R_far (p := ⟨gb409, 0, none⟩) (Kd.R_types HO_3.out BK409.out (by decide)) (fun _ hk => hk.2) (.int .i64 ((rd_T35 l0_3 x41_4).f0))) (fun _ hk => hk.2) (.slice (some ad410) ((rd_T35 l0_3 x41_4).f1).length c408_1)) (fun _ hk => trivial)⟩, ⟨by (with_reducible repeat (first | refine blk_drewN ?_ _ | refine blk_drew ?_ | refine blk_alloc ?_ _)); refine blk_far ?_ NB397_409.out _; (with_reducible repeat (first | refine blk_drewN ?_ _ | refine blk_drew ?_ | refine blk_alloc ?_ _)); refine blk_far ?_ NB397_409.out _; (with_reducible repeat (first | refine blk_drewN ?_ _ | refine blk_drew ?_ | refine blk_alloc ?_ _)); exact BK397.out⟩, ⟨by repeat (first | (with_reducible first | exact HB.out | apply below_alloc | apply pw_below_drewN | apply below_drew1 | refine below_set ?_ GE397.out | refine below_set ?_ GE409.out) | exact HB.out)⟩⟩
                     ·replace c35 := Bool.eq_false_iff.mpr c35
                      subst c35
                      have H1 : ((gram_Sym_Place.f (rd ((rd_T35 l0_3 x41_4).f1) 0)).bind fun t413 => (if t413 = x30_3 then (if 0 ≤ ((rd_T35 l0_3 x41_4).f0) then (if ((rd_T35 l0_3 x41_4).f0) < (x3_3.length : Int) then (if (rdOf false x3_3 ((rd_T35 l0_3 x41_4).f0) = true) then (wickerlaw11_CornerRow.l2 k4 x3_3 x4_3 x5_3 x30_3 x7_4 (l0_0.length : Int) x30_3 l0_3 (l0_3.length : Int) (wrap64 (x41_4 + 1)) l0_0 l0_1 a0_2 l0_3) else (wickerlaw11_CornerRow.l2 k4 x3_3 x4_3 x5_3 x30_3 false (l0_0.length : Int) x30_3 l0_3 (l0_3.length : Int) (wrap64 (x41_4 + 1)) l0_0 l0_1 a0_2 l0_3)) else (none)) else (none)) else (wickerlaw11_CornerRow.l2 k4 x3_3 x4_3 x5_3 x30_3 x7_4 (l0_0.length : Int) x30_3 l0_3 (l0_3.length : Int) (wrap64 (x41_4 + 1)) l0_0 l0_1 a0_2 l0_3))) = some r := by rw [if_neg (show ¬ (false = true) by decide)] at H; exact H
                      clear H
                      have H := H1
                      clear H1
                      replace H := Option.bind_eq_some_iff.mp H
                      obtain ⟨t413, A390, H⟩ := H
                      replace H : (if t413 = x30_3 then (if 0 ≤ ((rd_T35 l0_3 x41_4).f0) then (if ((rd_T35 l0_3 x41_4).f0) < (x3_3.length : Int) then (if (rdOf false x3_3 ((rd_T35 l0_3 x41_4).f0) = true) then (wickerlaw11_CornerRow.l2 k4 x3_3 x4_3 x5_3 x30_3 x7_4 (l0_0.length : Int) x30_3 l0_3 (l0_3.length : Int) (wrap64 (x41_4 + 1)) l0_0 l0_1 a0_2 l0_3) else (wickerlaw11_CornerRow.l2 k4 x3_3 x4_3 x5_3 x30_3 false (l0_0.length : Int) x30_3 l0_3 (l0_3.length : Int) (wrap64 (x41_4 + 1)) l0_0 l0_1 a0_2 l0_3)) else (none)) else (none)) else (wickerlaw11_CornerRow.l2 k4 x3_3 x4_3 x5_3 x30_3 x7_4 (l0_0.length : Int) x30_3 l0_3 (l0_3.length : Int) (wrap64 (x41_4 + 1)) l0_0 l0_1 a0_2 l0_3)) = some r := H
                      have A39 := Aside0.mk A390
                      clear A390
                      by_cases c40 : t413 = x30_3
                      ·rw [if_pos c40] at H
                       have c40b0 : (t413 == x30_3) = true := beq_iff_eq.mpr c40
                       have c40b1 : (t413 != x30_3) = false := bne_eq_false_iff_eq.mpr c40
                       clear c40
                       by_cases c41 : 0 ≤ ((rd_T35 l0_3 x41_4).f0)
                       ·rw [if_pos c41] at H
                        have c41b0 : decide (0 ≤ ((rd_T35 l0_3 x41_4).f0)) = true := decide_eq_true c41
                        clear c41
                        by_cases c42 : ((rd_T35 l0_3 x41_4).f0) < (x3_3.length : Int)
                        ·rw [if_pos c42] at H
                         have c42b0 : decide (((rd_T35 l0_3 x41_4).f0) < (x3_3.length : Int)) = true := decide_eq_true c42
                         clear c42
                         obtain ⟨bq43, hbq43⟩ : ∃ b_ : Bool, b_ = (rdOf false x3_3 ((rd_T35 l0_3 x41_4).f0)) := ⟨_, rfl⟩
                         replace H : (if (bq43 = true) then (wickerlaw11_CornerRow.l2 k4 x3_3 x4_3 x5_3 x30_3 x7_4 (l0_0.length : Int) x30_3 l0_3 (l0_3.length : Int) (wrap64 (x41_4 + 1)) l0_0 l0_1 a0_2 l0_3) else (wickerlaw11_CornerRow.l2 k4 x3_3 x4_3 x5_3 x30_3 false (l0_0.length : Int) x30_3 l0_3 (l0_3.length : Int) (wrap64 (x41_4 + 1)) l0_0 l0_1 a0_2 l0_3)) = some r := by rw [← hbq43] at H; exact H
                         have Nbq43 := Aside0.mk hbq43
                         clear hbq43
                         by_cases c44 : (bq43 = true)
                         ·subst c44
                          have H1 : (wickerlaw11_CornerRow.l2 k4 x3_3 x4_3 x5_3 x30_3 x7_4 (l0_0.length : Int) x30_3 l0_3 (l0_3.length : Int) (wrap64 (x41_4 + 1)) l0_0 l0_1 a0_2 l0_3) = some r := by rw [if_pos rfl] at H; exact H
                          clear H
                          have H := H1
                          clear H1
                          have H' := Aside0.mk H
                          clear H
                          have p408 : 0 ≤ (x41_4 : Int) := of_decide_eq_true (by first | (with_reducible assumption) | assumption)
                          have q408 : x41_4 < (l0_3.length : Int) := of_decide_eq_true (by first | (with_reducible assumption) | assumption)
                          obtain ⟨ad408, A408_1, c408_1, e408, hx408_0, hx408_1, hl408_1, hi408_1⟩ := at_T35 HR0_3.out x41_4 p408 q408
                          cases e408
                          replace hx408_0 := (HB.out.cell (World.block_lt_of_cell? w _ hx408_0)).trans hx408_0
                          replace hx408_1 := (HB.out.cell (World.block_lt_of_cell? w _ hx408_1)).trans hx408_1
                          have HR408_1 := Aside0.mk hi408_1
                          have HC408_1 := Aside0.mk hl408_1
                          clear hi408_1 hl408_1
                          replace p408 := eq_true p408
                          replace q408 := eq_true q408
                          go_wp2_with (first | ((with_reducible refine gate_dst (N := 9) rfl ?_); refine box_event ?hg (N := 9) ?hd (cs := #[.int .i64 0, .slice none 0 0]) (t := 35) ?hr ?_; (case hd => rfl); (case hg => rfl); (case hr => first | (go_simp; done) | (go_simp; rfl)); intro gb409 hg w45 hbox hb; have n0_ := Aside0.mk (Kd.R_below (by (with_reducible repeat (first | apply Kd.R_alloc | apply Kd.R_drewN | apply Kd.R_drew)); exact HO_3.out) hb); have n1_ := Aside0.mk (blk_below (g := gb397) (o := .cells #[.slice A0_0 l0_0.length c0_0, .slice A0_1 l0_1.length c0_1, .int .i64 a0_2, .slice (some ad408) l0_3.length c0_3] 25 (0, 0)) (by (with_reducible repeat (first | refine blk_drewN ?_ _ | refine blk_drew ?_ | refine blk_alloc ?_ _)); exact BK397.out) hb); have n2_ := Aside0.mk (below_step (by repeat (first | (with_reducible first | exact HB.out | apply below_alloc | apply pw_below_drewN | apply below_drew1 | refine below_set ?_ GE397.out) | exact HB.out)) hb); have n3_ := Aside0.mk (hbox); have n4_ := Aside0.mk ((by rw [hg]; exact (below_size (by repeat (first | (with_reducible first | exact HB.out | apply below_alloc | apply pw_below_drewN | apply below_drew1 | refine below_set ?_ GE397.out) | exact HB.out))) : w.heap.size ≤ gb409)); have n5_ := Aside0.mk ((by rw [hg]; exact (below_size (by repeat (first | (with_reducible first | exact HB.out | apply below_alloc | apply pw_below_drewN | apply below_drew1 | refine below_set ?_ GE397.out) | exact HB.out))) : w.heap.size ≤ gb409)); have n6_ := Aside0.mk ((by rw [hg]; exact Nat.ne_of_lt (blk_lt (g := gb397) (o := .cells #[.slice A0_0 l0_0.length c0_0, .slice A0_1 l0_1.length c0_1, .int .i64 a0_2, .slice (some ad408) l0_3.length c0_3] 25 (0, 0)) (by (with_reducible repeat (first | refine blk_drewN ?_ _ | refine blk_drew ?_ | refine blk_alloc ?_ _)); exact BK397.out)) : gb397 ≠ gb409)); have n7_ := Aside0.mk ((by rw [hg]; exact Nat.ne_of_gt (blk_lt (g := gb397) (o := .cells #[.slice A0_0 l0_0.length c0_0, .slice A0_1 l0_1.length c0_1, .int .i64 a0_2, .slice (some ad408) l0_3.length c0_3] 25 (0, 0)) (by (with_reducible repeat (first | refine blk_drewN ?_ _ | refine blk_drew ?_ | refine blk_alloc ?_ _)); exact BK397.out)) : gb409 ≠ gb397)); clear HO_3; clear BK397; clear HB; have HO_3 := n0_; have BK397 := n1_; have HB := n2_; have BK409 := n3_; have GW409 := n4_; have GE409 := n5_; have NB397_409 := n6_; have NB409_397 := n7_; clear n0_ n1_ n2_ n3_ n4_ n5_ n6_ n7_; clear hb hbox hg; have hnb46 := NB409_397.out; have hnc46 := NB397_409.out; have hcz47_0 : w45.cell? ⟨gb409, 0, none⟩ = some (.int .i64 0) := (blk_cell BK409.out 0).trans rfl; have hcz47_1 : w45.cell? ⟨gb409, 1, none⟩ = some (.slice none 0 0) := (blk_cell BK409.out 1).trans rfl; have hfz47_0 := blk_frozen BK409.out 0; have hfz47_1 := blk_frozen BK409.out 1; have p410 : 0 ≤ (0 : Int) := (by omega); have q410 : 0 < (((rd_T35 l0_3 x41_4).f1).length : Int) := of_decide_eq_true (by first | (with_reducible assumption) | assumption); obtain ⟨ad410, e410, hx410_0⟩ := Kd.at_int HR408_1.out 0 p410 q410; cases e410; have qi410 : (0 < ((rd_T35 l0_3 x41_4).f1).length) = True := eq_true (by omega); (try rw [show ((0 : Int)).toNat = 0 from rfl] at hx410_0); (try rw [Addr.add_zero'] at hx410_0); have hn410_0 : ad410.block ≠ gb409 := Nat.ne_of_lt (Nat.lt_of_lt_of_le (by have := World.block_lt_of_cell? _ _ hx410_0; first | rwa [add_block] at this | exact this) GW409.out); have hn410_1 : ad410.block ≠ gb409 := Nat.ne_of_lt (Nat.lt_of_lt_of_le (by have := World.block_lt_of_cell? _ _ hx410_0; first | rwa [add_block] at this | exact this) GW409.out); replace hx410_0 := (HB.out.cell (World.block_lt_of_cell? w _ hx410_0)).trans hx410_0; replace hx410_0 := (cell_far (p := ⟨gb409, 0, none⟩) (by first | (rw [add_block]; exact hn410_0) | (show (Addr.add _ _).block ≠ _; rw [add_block]; exact hn410_0) | exact hn410_0) (.int .i64 ((rd_T35 l0_3 x41_4).f0))).trans hx410_0; replace hx410_0 := (cell_far (p := ⟨gb409, 1, none⟩) (by first | (rw [add_block]; exact hn410_1) | (show (Addr.add _ _).block ≠ _; rw [add_block]; exact hn410_1) | exact hn410_1) (.slice (some ad410) ((rd_T35 l0_3 x41_4).f1).length c408_1)).trans hx410_0; clear hn410_0; clear hn410_1; replace p410 := eq_true p410; replace q410 := eq_true q410) | (go_at_call 33; (with_reducible refine (gram_Sym_IsTerm.calls (rd ((rd_T35 l0_3 x41_4).f1) 0) false _ A34.out).mono ?_); rintro e w' ⟨rfl, ⟨nd, rfl⟩⟩; have p412 : 0 ≤ (0 : Int) := (by omega); have q412 : 0 < (((rd_T35 l0_3 x41_4).f1).length : Int) := of_decide_eq_true (by first | (with_reducible assumption) | assumption); obtain ⟨ad412, e412, hx412_0⟩ := Kd.at_int HR408_1.out 0 p412 q412; obtain rfl : ad410 = ad412 := (by injection e412); have qi412 : (0 < ((rd_T35 l0_3 x41_4).f1).length) = True := eq_true (by omega); (try rw [show ((0 : Int)).toNat = 0 from rfl] at hx412_0); (try rw [Addr.add_zero'] at hx412_0); have hn412_0 : ad410.block ≠ gb409 := Nat.ne_of_lt (Nat.lt_of_lt_of_le (by have := World.block_lt_of_cell? _ _ hx412_0; first | rwa [add_block] at this | exact this) GW409.out); have hn412_1 : ad410.block ≠ gb409 := Nat.ne_of_lt (Nat.lt_of_lt_of_le (by have := World.block_lt_of_cell? _ _ hx412_0; first | rwa [add_block] at this | exact this) GW409.out); replace hx412_0 := (HB.out.cell (World.block_lt_of_cell? w _ hx412_0)).trans hx412_0; replace hx412_0 := (cell_far (p := ⟨gb409, 0, none⟩) (by first | (rw [add_block]; exact hn412_0) | (show (Addr.add _ _).block ≠ _; rw [add_block]; exact hn412_0) | exact hn412_0) (.int .i64 ((rd_T35 l0_3 x41_4).f0))).trans hx412_0; replace hx412_0 := (cell_far (p := ⟨gb409, 1, none⟩) (by first | (rw [add_block]; exact hn412_1) | (show (Addr.add _ _).block ≠ _; rw [add_block]; exact hn412_1) | exact hn412_1) (.slice (some ad410) ((rd_T35 l0_3 x41_4).f1).length c408_1)).trans hx412_0; clear hn412_0; clear hn412_1; replace p412 := eq_true p412; replace q412 := eq_true q412) | (go_at_call 34; (with_reducible refine (gram_Sym_Place.calls (rd ((rd_T35 l0_3 x41_4).f1) 0) t413 _ A39.out).mono ?_); rintro e w' ⟨rfl, ⟨nd, rfl⟩⟩; have p414 : 0 ≤ (((rd_T35 l0_3 x41_4).f0) : Int) := of_decide_eq_true (by first | (with_reducible assumption) | assumption); have q414 : ((rd_T35 l0_3 x41_4).f0) < (x3_3.length : Int) := of_decide_eq_true (by first | (with_reducible assumption) | assumption); obtain ⟨ad414, e414, hx414_0⟩ := Kd.at_bool (Kd.R_reads' HO_3.out).2.2 ((rd_T35 l0_3 x41_4).f0) p414 q414; (try rw [← Nbq43.out] at hx414_0); obtain rfl : ad406 = ad414 := (by injection e414); have hn414_0 : ad406.block ≠ gb409 := Kd.own_blk (Kd.R_ne HO_3.out BK409.out (by decide)); have hn414_1 : ad406.block ≠ gb409 := Kd.own_blk (Kd.R_ne HO_3.out BK409.out (by decide)); replace hx414_0 := (cell_far (p := ⟨gb409, 0, none⟩) (by first | (rw [add_block]; exact hn414_0) | (show (Addr.add _ _).block ≠ _; rw [add_block]; exact hn414_0) | exact hn414_0) (.int .i64 ((rd_T35 l0_3 x41_4).f0))).trans hx414_0; replace hx414_0 := (cell_far (p := ⟨gb409, 1, none⟩) (by first | (rw [add_block]; exact hn414_1) | (show (Addr.add _ _).block ≠ _; rw [add_block]; exact hn414_1) | exact hn414_1) (.slice (some ad410) ((rd_T35 l0_3 x41_4).f1).length c408_1)).trans hx414_0; clear hn414_0; clear hn414_1; replace p414 := eq_true p414; replace q414 := eq_true q414))
                          go_roundg k4
                          case measure => have := HJ1.out; have := HK2.out; have := HK3.out; have := HK4.out; omega
                          case rel => exact ⟨(x7_4), (wrap64 (x41_4 + 1)), (by first | rfl | (simp; done) | (simp [*]; done)), (by first | rfl | (simp; done) | (simp [*]; done)), H', ⟨by have := HJ1.out; have := HK2.out; have := HK3.out; have := HK4.out; omega⟩, ⟨by (with_reducible repeat (first | apply Kd.R_alloc | apply Kd.R_drewN | apply Kd.R_drew)); exact Kd.R_mono (Kd.R_far (p := ⟨gb409, 1, none⟩) (Kd.R_far (p := ⟨gb409, 0, none⟩) (Kd.R_types HO_3.out BK409.out (by decide)) (fun _ hk => hk.2) (.int .i64 ((rd_T35 l0_3 x41_4).f0))) (fun _ hk => hk.2) (.slice (some ad410) ((rd_T35 l0_3 x41_4).f1).length c408_1)) (fun _ hk => trivial)⟩, ⟨by (with_reducible repeat (first | refine blk_drewN ?_ _ | refine blk_drew ?_ | refine blk_alloc ?_ _)); refine blk_far ?_ NB397_409.out _; (with_reducible repeat (first | refine blk_drewN ?_ _ | refine blk_drew ?_ | refine blk_alloc ?_ _)); refine blk_far ?_ NB397_409.out _; (with_reducible repeat (first | refine blk_drewN ?_ _ | refine blk_drew ?_ | refine blk_alloc ?_ _)); exact BK397.out⟩, ⟨by repeat (first | (with_reducible first | exact HB.out | apply below_alloc | apply pw_below_drewN | apply below_drew1 | refine below_set ?_ GE397.out | refine below_set ?_ GE409.out) | exact HB.out)⟩⟩
                         ·replace c44 := Bool.eq_false_iff.mpr c44
                          subst c44
                          have H1 : (wickerlaw11_CornerRow.l2 k4 x3_3 x4_3 x5_3 x30_3 false (l0_0.length : Int) x30_3 l0_3 (l0_3.length : Int) (wrap64 (x41_4 + 1)) l0_0 l0_1 a0_2 l0_3) = some r := by rw [if_neg (show ¬ (false = true) by decide)] at H; exact H
                          clear H
                          have H := H1
                          clear H1
                          have H' := Aside0.mk H
                          clear H
                          have p408 : 0 ≤ (x41_4 : Int) := of_decide_eq_true (by first | (with_reducible assumption) | assumption)
                          have q408 : x41_4 < (l0_3.length : Int) := of_decide_eq_true (by first | (with_reducible assumption) | assumption)
                          obtain ⟨ad408, A408_1, c408_1, e408, hx408_0, hx408_1, hl408_1, hi408_1⟩ := at_T35 HR0_3.out x41_4 p408 q408
                          cases e408
                          replace hx408_0 := (HB.out.cell (World.block_lt_of_cell? w _ hx408_0)).trans hx408_0
                          replace hx408_1 := (HB.out.cell (World.block_lt_of_cell? w _ hx408_1)).trans hx408_1
                          have HR408_1 := Aside0.mk hi408_1
                          have HC408_1 := Aside0.mk hl408_1
                          clear hi408_1 hl408_1
                          replace p408 := eq_true p408
                          replace q408 := eq_true q408
                          go_wp2_with (first | ((with_reducible refine gate_dst (N := 9) rfl ?_); refine box_event ?hg (N := 9) ?hd (cs := #[.int .i64 0, .slice none 0 0]) (t := 35) ?hr ?_; (case hd => rfl); (case hg => rfl); (case hr => first | (go_simp; done) | (go_simp; rfl)); intro gb409 hg w48 hbox hb; have n0_ := Aside0.mk (Kd.R_below (by (with_reducible repeat (first | apply Kd.R_alloc | apply Kd.R_drewN | apply Kd.R_drew)); exact HO_3.out) hb); have n1_ := Aside0.mk (blk_below (g := gb397) (o := .cells #[.slice A0_0 l0_0.length c0_0, .slice A0_1 l0_1.length c0_1, .int .i64 a0_2, .slice (some ad408) l0_3.length c0_3] 25 (0, 0)) (by (with_reducible repeat (first | refine blk_drewN ?_ _ | refine blk_drew ?_ | refine blk_alloc ?_ _)); exact BK397.out) hb); have n2_ := Aside0.mk (below_step (by repeat (first | (with_reducible first | exact HB.out | apply below_alloc | apply pw_below_drewN | apply below_drew1 | refine below_set ?_ GE397.out) | exact HB.out)) hb); have n3_ := Aside0.mk (hbox); have n4_ := Aside0.mk ((by rw [hg]; exact (below_size (by repeat (first | (with_reducible first | exact HB.out | apply below_alloc | apply pw_below_drewN | apply below_drew1 | refine below_set ?_ GE397.out) | exact HB.out))) : w.heap.size ≤ gb409)); have n5_ := Aside0.mk ((by rw [hg]; exact (below_size (by repeat (first | (with_reducible first | exact HB.out | apply below_alloc | apply pw_below_drewN | apply below_drew1 | refine below_set ?_ GE397.out) | exact HB.out))) : w.heap.size ≤ gb409)); have n6_ := Aside0.mk ((by rw [hg]; exact Nat.ne_of_lt (blk_lt (g := gb397) (o := .cells #[.slice A0_0 l0_0.length c0_0, .slice A0_1 l0_1.length c0_1, .int .i64 a0_2, .slice (some ad408) l0_3.length c0_3] 25 (0, 0)) (by (with_reducible repeat (first | refine blk_drewN ?_ _ | refine blk_drew ?_ | refine blk_alloc ?_ _)); exact BK397.out)) : gb397 ≠ gb409)); have n7_ := Aside0.mk ((by rw [hg]; exact Nat.ne_of_gt (blk_lt (g := gb397) (o := .cells #[.slice A0_0 l0_0.length c0_0, .slice A0_1 l0_1.length c0_1, .int .i64 a0_2, .slice (some ad408) l0_3.length c0_3] 25 (0, 0)) (by (with_reducible repeat (first | refine blk_drewN ?_ _ | refine blk_drew ?_ | refine blk_alloc ?_ _)); exact BK397.out)) : gb409 ≠ gb397)); clear HO_3; clear BK397; clear HB; have HO_3 := n0_; have BK397 := n1_; have HB := n2_; have BK409 := n3_; have GW409 := n4_; have GE409 := n5_; have NB397_409 := n6_; have NB409_397 := n7_; clear n0_ n1_ n2_ n3_ n4_ n5_ n6_ n7_; clear hb hbox hg; have hnb49 := NB409_397.out; have hnc49 := NB397_409.out; have hcz50_0 : w48.cell? ⟨gb409, 0, none⟩ = some (.int .i64 0) := (blk_cell BK409.out 0).trans rfl; have hcz50_1 : w48.cell? ⟨gb409, 1, none⟩ = some (.slice none 0 0) := (blk_cell BK409.out 1).trans rfl; have hfz50_0 := blk_frozen BK409.out 0; have hfz50_1 := blk_frozen BK409.out 1; have p410 : 0 ≤ (0 : Int) := (by omega); have q410 : 0 < (((rd_T35 l0_3 x41_4).f1).length : Int) := of_decide_eq_true (by first | (with_reducible assumption) | assumption); obtain ⟨ad410, e410, hx410_0⟩ := Kd.at_int HR408_1.out 0 p410 q410; cases e410; have qi410 : (0 < ((rd_T35 l0_3 x41_4).f1).length) = True := eq_true (by omega); (try rw [show ((0 : Int)).toNat = 0 from rfl] at hx410_0); (try rw [Addr.add_zero'] at hx410_0); have hn410_0 : ad410.block ≠ gb409 := Nat.ne_of_lt (Nat.lt_of_lt_of_le (by have := World.block_lt_of_cell? _ _ hx410_0; first | rwa [add_block] at this | exact this) GW409.out); have hn410_1 : ad410.block ≠ gb409 := Nat.ne_of_lt (Nat.lt_of_lt_of_le (by have := World.block_lt_of_cell? _ _ hx410_0; first | rwa [add_block] at this | exact this) GW409.out); replace hx410_0 := (HB.out.cell (World.block_lt_of_cell? w _ hx410_0)).trans hx410_0; replace hx410_0 := (cell_far (p := ⟨gb409, 0, none⟩) (by first | (rw [add_block]; exact hn410_0) | (show (Addr.add _ _).block ≠ _; rw [add_block]; exact hn410_0) | exact hn410_0) (.int .i64 ((rd_T35 l0_3 x41_4).f0))).trans hx410_0; replace hx410_0 := (cell_far (p := ⟨gb409, 1, none⟩) (by first | (rw [add_block]; exact hn410_1) | (show (Addr.add _ _).block ≠ _; rw [add_block]; exact hn410_1) | exact hn410_1) (.slice (some ad410) ((rd_T35 l0_3 x41_4).f1).length c408_1)).trans hx410_0; clear hn410_0; clear hn410_1; replace p410 := eq_true p410; replace q410 := eq_true q410) | (go_at_call 33; (with_reducible refine (gram_Sym_IsTerm.calls (rd ((rd_T35 l0_3 x41_4).f1) 0) false _ A34.out).mono ?_); rintro e w' ⟨rfl, ⟨nd, rfl⟩⟩; have p412 : 0 ≤ (0 : Int) := (by omega); have q412 : 0 < (((rd_T35 l0_3 x41_4).f1).length : Int) := of_decide_eq_true (by first | (with_reducible assumption) | assumption); obtain ⟨ad412, e412, hx412_0⟩ := Kd.at_int HR408_1.out 0 p412 q412; obtain rfl : ad410 = ad412 := (by injection e412); have qi412 : (0 < ((rd_T35 l0_3 x41_4).f1).length) = True := eq_true (by omega); (try rw [show ((0 : Int)).toNat = 0 from rfl] at hx412_0); (try rw [Addr.add_zero'] at hx412_0); have hn412_0 : ad410.block ≠ gb409 := Nat.ne_of_lt (Nat.lt_of_lt_of_le (by have := World.block_lt_of_cell? _ _ hx412_0; first | rwa [add_block] at this | exact this) GW409.out); have hn412_1 : ad410.block ≠ gb409 := Nat.ne_of_lt (Nat.lt_of_lt_of_le (by have := World.block_lt_of_cell? _ _ hx412_0; first | rwa [add_block] at this | exact this) GW409.out); replace hx412_0 := (HB.out.cell (World.block_lt_of_cell? w _ hx412_0)).trans hx412_0; replace hx412_0 := (cell_far (p := ⟨gb409, 0, none⟩) (by first | (rw [add_block]; exact hn412_0) | (show (Addr.add _ _).block ≠ _; rw [add_block]; exact hn412_0) | exact hn412_0) (.int .i64 ((rd_T35 l0_3 x41_4).f0))).trans hx412_0; replace hx412_0 := (cell_far (p := ⟨gb409, 1, none⟩) (by first | (rw [add_block]; exact hn412_1) | (show (Addr.add _ _).block ≠ _; rw [add_block]; exact hn412_1) | exact hn412_1) (.slice (some ad410) ((rd_T35 l0_3 x41_4).f1).length c408_1)).trans hx412_0; clear hn412_0; clear hn412_1; replace p412 := eq_true p412; replace q412 := eq_true q412) | (go_at_call 34; (with_reducible refine (gram_Sym_Place.calls (rd ((rd_T35 l0_3 x41_4).f1) 0) t413 _ A39.out).mono ?_); rintro e w' ⟨rfl, ⟨nd, rfl⟩⟩; have p414 : 0 ≤ (((rd_T35 l0_3 x41_4).f0) : Int) := of_decide_eq_true (by first | (with_reducible assumption) | assumption); have q414 : ((rd_T35 l0_3 x41_4).f0) < (x3_3.length : Int) := of_decide_eq_true (by first | (with_reducible assumption) | assumption); obtain ⟨ad414, e414, hx414_0⟩ := Kd.at_bool (Kd.R_reads' HO_3.out).2.2 ((rd_T35 l0_3 x41_4).f0) p414 q414; (try rw [← Nbq43.out] at hx414_0); obtain rfl : ad406 = ad414 := (by injection e414); have hn414_0 : ad406.block ≠ gb409 := Kd.own_blk (Kd.R_ne HO_3.out BK409.out (by decide)); have hn414_1 : ad406.block ≠ gb409 := Kd.own_blk (Kd.R_ne HO_3.out BK409.out (by decide)); replace hx414_0 := (cell_far (p := ⟨gb409, 0, none⟩) (by first | (rw [add_block]; exact hn414_0) | (show (Addr.add _ _).block ≠ _; rw [add_block]; exact hn414_0) | exact hn414_0) (.int .i64 ((rd_T35 l0_3 x41_4).f0))).trans hx414_0; replace hx414_0 := (cell_far (p := ⟨gb409, 1, none⟩) (by first | (rw [add_block]; exact hn414_1) | (show (Addr.add _ _).block ≠ _; rw [add_block]; exact hn414_1) | exact hn414_1) (.slice (some ad410) ((rd_T35 l0_3 x41_4).f1).length c408_1)).trans hx414_0; clear hn414_0; clear hn414_1; replace p414 := eq_true p414; replace q414 := eq_true q414))
                          go_roundg k4
                          case measure => have := HJ1.out; have := HK2.out; have := HK3.out; have := HK4.out; omega
                          case rel => exact ⟨(false), (wrap64 (x41_4 + 1)), (by first | rfl | (simp; done) | (simp [*]; done)), (by first | rfl | (simp; done) | (simp [*]; done)), H', ⟨by have := HJ1.out; have := HK2.out; have := HK3.out; have := HK4.out; omega⟩, ⟨by (with_reducible repeat (first | apply Kd.R_alloc | apply Kd.R_drewN | apply Kd.R_drew)); exact Kd.R_mono (Kd.R_far (p := ⟨gb409, 1, none⟩) (Kd.R_far (p := ⟨gb409, 0, none⟩) (Kd.R_types HO_3.out BK409.out (by decide)) (fun _ hk => hk.2) (.int .i64 ((rd_T35 l0_3 x41_4).f0))) (fun _ hk => hk.2) (.slice (some ad410) ((rd_T35 l0_3 x41_4).f1).length c408_1)) (fun _ hk => trivial)⟩, ⟨by (with_reducible repeat (first | refine blk_drewN ?_ _ | refine blk_drew ?_ | refine blk_alloc ?_ _)); refine blk_far ?_ NB397_409.out _; (with_reducible repeat (first | refine blk_drewN ?_ _ | refine blk_drew ?_ | refine blk_alloc ?_ _)); refine blk_far ?_ NB397_409.out _; (with_reducible repeat (first | refine blk_drewN ?_ _ | refine blk_drew ?_ | refine blk_alloc ?_ _)); exact BK397.out⟩, ⟨by repeat (first | (with_reducible first | exact HB.out | apply below_alloc | apply pw_below_drewN | apply below_drew1 | refine below_set ?_ GE397.out | refine below_set ?_ GE409.out) | exact HB.out)⟩⟩
                        ·rw [if_neg c42] at H
                         exact absurd H (by simp)
                       ·rw [if_neg c41] at H
                        exact absurd H (by simp)
                      ·rw [if_neg c40] at H
                       have c40b0 : (t413 == x30_3) = false := beq_eq_false_iff_ne.mpr c40
                       have c40b1 : (t413 != x30_3) = true := bne_iff_ne.mpr c40
                       have H' := Aside0.mk H
                       clear H
                       have p408 : 0 ≤ (x41_4 : Int) := of_decide_eq_true (by first | (with_reducible assumption) | assumption)
                       have q408 : x41_4 < (l0_3.length : Int) := of_decide_eq_true (by first | (with_reducible assumption) | assumption)
                       obtain ⟨ad408, A408_1, c408_1, e408, hx408_0, hx408_1, hl408_1, hi408_1⟩ := at_T35 HR0_3.out x41_4 p408 q408
                       cases e408
                       replace hx408_0 := (HB.out.cell (World.block_lt_of_cell? w _ hx408_0)).trans hx408_0
                       replace hx408_1 := (HB.out.cell (World.block_lt_of_cell? w _ hx408_1)).trans hx408_1
                       have HR408_1 := Aside0.mk hi408_1
                       have HC408_1 := Aside0.mk hl408_1
                       clear hi408_1 hl408_1
                       replace p408 := eq_true p408
                       replace q408 := eq_true q408
                       go_wp2_with (first | ((with_reducible refine gate_dst (N := 9) rfl ?_); refine box_event ?hg (N := 9) ?hd (cs := #[.int .i64 0, .slice none 0 0]) (t := 35) ?hr ?_; (case hd => rfl); (case hg => rfl); (case hr => first | (go_simp; done) | (go_simp; rfl)); intro gb409 hg w51 hbox hb; have n0_ := Aside0.mk (Kd.R_below (by (with_reducible repeat (first | apply Kd.R_alloc | apply Kd.R_drewN | apply Kd.R_drew)); exact HO_3.out) hb); have n1_ := Aside0.mk (blk_below (g := gb397) (o := .cells #[.slice A0_0 l0_0.length c0_0, .slice A0_1 l0_1.length c0_1, .int .i64 a0_2, .slice (some ad408) l0_3.length c0_3] 25 (0, 0)) (by (with_reducible repeat (first | refine blk_drewN ?_ _ | refine blk_drew ?_ | refine blk_alloc ?_ _)); exact BK397.out) hb); have n2_ := Aside0.mk (below_step (by repeat (first | (with_reducible first | exact HB.out | apply below_alloc | apply pw_below_drewN | apply below_drew1 | refine below_set ?_ GE397.out) | exact HB.out)) hb); have n3_ := Aside0.mk (hbox); have n4_ := Aside0.mk ((by rw [hg]; exact (below_size (by repeat (first | (with_reducible first | exact HB.out | apply below_alloc | apply pw_below_drewN | apply below_drew1 | refine below_set ?_ GE397.out) | exact HB.out))) : w.heap.size ≤ gb409)); have n5_ := Aside0.mk ((by rw [hg]; exact (below_size (by repeat (first | (with_reducible first | exact HB.out | apply below_alloc | apply pw_below_drewN | apply below_drew1 | refine below_set ?_ GE397.out) | exact HB.out))) : w.heap.size ≤ gb409)); have n6_ := Aside0.mk ((by rw [hg]; exact Nat.ne_of_lt (blk_lt (g := gb397) (o := .cells #[.slice A0_0 l0_0.length c0_0, .slice A0_1 l0_1.length c0_1, .int .i64 a0_2, .slice (some ad408) l0_3.length c0_3] 25 (0, 0)) (by (with_reducible repeat (first | refine blk_drewN ?_ _ | refine blk_drew ?_ | refine blk_alloc ?_ _)); exact BK397.out)) : gb397 ≠ gb409)); have n7_ := Aside0.mk ((by rw [hg]; exact Nat.ne_of_gt (blk_lt (g := gb397) (o := .cells #[.slice A0_0 l0_0.length c0_0, .slice A0_1 l0_1.length c0_1, .int .i64 a0_2, .slice (some ad408) l0_3.length c0_3] 25 (0, 0)) (by (with_reducible repeat (first | refine blk_drewN ?_ _ | refine blk_drew ?_ | refine blk_alloc ?_ _)); exact BK397.out)) : gb409 ≠ gb397)); clear HO_3; clear BK397; clear HB; have HO_3 := n0_; have BK397 := n1_; have HB := n2_; have BK409 := n3_; have GW409 := n4_; have GE409 := n5_; have NB397_409 := n6_; have NB409_397 := n7_; clear n0_ n1_ n2_ n3_ n4_ n5_ n6_ n7_; clear hb hbox hg; have hnb52 := NB409_397.out; have hnc52 := NB397_409.out; have hcz53_0 : w51.cell? ⟨gb409, 0, none⟩ = some (.int .i64 0) := (blk_cell BK409.out 0).trans rfl; have hcz53_1 : w51.cell? ⟨gb409, 1, none⟩ = some (.slice none 0 0) := (blk_cell BK409.out 1).trans rfl; have hfz53_0 := blk_frozen BK409.out 0; have hfz53_1 := blk_frozen BK409.out 1; have p410 : 0 ≤ (0 : Int) := (by omega); have q410 : 0 < (((rd_T35 l0_3 x41_4).f1).length : Int) := of_decide_eq_true (by first | (with_reducible assumption) | assumption); obtain ⟨ad410, e410, hx410_0⟩ := Kd.at_int HR408_1.out 0 p410 q410; cases e410; have qi410 : (0 < ((rd_T35 l0_3 x41_4).f1).length) = True := eq_true (by omega); (try rw [show ((0 : Int)).toNat = 0 from rfl] at hx410_0); (try rw [Addr.add_zero'] at hx410_0); have hn410_0 : ad410.block ≠ gb409 := Nat.ne_of_lt (Nat.lt_of_lt_of_le (by have := World.block_lt_of_cell? _ _ hx410_0; first | rwa [add_block] at this | exact this) GW409.out); have hn410_1 : ad410.block ≠ gb409 := Nat.ne_of_lt (Nat.lt_of_lt_of_le (by have := World.block_lt_of_cell? _ _ hx410_0; first | rwa [add_block] at this | exact this) GW409.out); replace hx410_0 := (HB.out.cell (World.block_lt_of_cell? w _ hx410_0)).trans hx410_0; replace hx410_0 := (cell_far (p := ⟨gb409, 0, none⟩) (by first | (rw [add_block]; exact hn410_0) | (show (Addr.add _ _).block ≠ _; rw [add_block]; exact hn410_0) | exact hn410_0) (.int .i64 ((rd_T35 l0_3 x41_4).f0))).trans hx410_0; replace hx410_0 := (cell_far (p := ⟨gb409, 1, none⟩) (by first | (rw [add_block]; exact hn410_1) | (show (Addr.add _ _).block ≠ _; rw [add_block]; exact hn410_1) | exact hn410_1) (.slice (some ad410) ((rd_T35 l0_3 x41_4).f1).length c408_1)).trans hx410_0; clear hn410_0; clear hn410_1; replace p410 := eq_true p410; replace q410 := eq_true q410) | (go_at_call 33; (with_reducible refine (gram_Sym_IsTerm.calls (rd ((rd_T35 l0_3 x41_4).f1) 0) false _ A34.out).mono ?_); rintro e w' ⟨rfl, ⟨nd, rfl⟩⟩; have p412 : 0 ≤ (0 : Int) := (by omega); have q412 : 0 < (((rd_T35 l0_3 x41_4).f1).length : Int) := of_decide_eq_true (by first | (with_reducible assumption) | assumption); obtain ⟨ad412, e412, hx412_0⟩ := Kd.at_int HR408_1.out 0 p412 q412; obtain rfl : ad410 = ad412 := (by injection e412); have qi412 : (0 < ((rd_T35 l0_3 x41_4).f1).length) = True := eq_true (by omega); (try rw [show ((0 : Int)).toNat = 0 from rfl] at hx412_0); (try rw [Addr.add_zero'] at hx412_0); have hn412_0 : ad410.block ≠ gb409 := Nat.ne_of_lt (Nat.lt_of_lt_of_le (by have := World.block_lt_of_cell? _ _ hx412_0; first | rwa [add_block] at this | exact this) GW409.out); have hn412_1 : ad410.block ≠ gb409 := Nat.ne_of_lt (Nat.lt_of_lt_of_le (by have := World.block_lt_of_cell? _ _ hx412_0; first | rwa [add_block] at this | exact this) GW409.out); replace hx412_0 := (HB.out.cell (World.block_lt_of_cell? w _ hx412_0)).trans hx412_0; replace hx412_0 := (cell_far (p := ⟨gb409, 0, none⟩) (by first | (rw [add_block]; exact hn412_0) | (show (Addr.add _ _).block ≠ _; rw [add_block]; exact hn412_0) | exact hn412_0) (.int .i64 ((rd_T35 l0_3 x41_4).f0))).trans hx412_0; replace hx412_0 := (cell_far (p := ⟨gb409, 1, none⟩) (by first | (rw [add_block]; exact hn412_1) | (show (Addr.add _ _).block ≠ _; rw [add_block]; exact hn412_1) | exact hn412_1) (.slice (some ad410) ((rd_T35 l0_3 x41_4).f1).length c408_1)).trans hx412_0; clear hn412_0; clear hn412_1; replace p412 := eq_true p412; replace q412 := eq_true q412) | (go_at_call 34; (with_reducible refine (gram_Sym_Place.calls (rd ((rd_T35 l0_3 x41_4).f1) 0) t413 _ A39.out).mono ?_); rintro e w' ⟨rfl, ⟨nd, rfl⟩⟩))
                       go_roundg k4
                       case measure => have := HJ1.out; have := HK2.out; have := HK3.out; have := HK4.out; omega
                       case rel => exact ⟨(x7_4), (wrap64 (x41_4 + 1)), (by first | rfl | (simp; done) | (simp [*]; done)), (by first | rfl | (simp; done) | (simp [*]; done)), H', ⟨by have := HJ1.out; have := HK2.out; have := HK3.out; have := HK4.out; omega⟩, ⟨by (with_reducible repeat (first | apply Kd.R_alloc | apply Kd.R_drewN | apply Kd.R_drew)); exact Kd.R_mono (Kd.R_far (p := ⟨gb409, 1, none⟩) (Kd.R_far (p := ⟨gb409, 0, none⟩) (Kd.R_types HO_3.out BK409.out (by decide)) (fun _ hk => hk.2) (.int .i64 ((rd_T35 l0_3 x41_4).f0))) (fun _ hk => hk.2) (.slice (some ad410) ((rd_T35 l0_3 x41_4).f1).length c408_1)) (fun _ hk => trivial)⟩, ⟨by (with_reducible repeat (first | refine blk_drewN ?_ _ | refine blk_drew ?_ | refine blk_alloc ?_ _)); refine blk_far ?_ NB397_409.out _; (with_reducible repeat (first | refine blk_drewN ?_ _ | refine blk_drew ?_ | refine blk_alloc ?_ _)); refine blk_far ?_ NB397_409.out _; (with_reducible repeat (first | refine blk_drewN ?_ _ | refine blk_drew ?_ | refine blk_alloc ?_ _)); exact BK397.out⟩, ⟨by repeat (first | (with_reducible first | exact HB.out | apply below_alloc | apply pw_below_drewN | apply below_drew1 | refine below_set ?_ GE397.out | refine below_set ?_ GE409.out) | exact HB.out)⟩⟩
                    ·rw [if_neg c33] at H
                     exact absurd H (by simp)
                   ·rw [if_neg c32] at H
                    have c32b0 : decide (0 < (((rd_T35 l0_3 x41_4).f1).length : Int)) = false := decide_eq_false c32
                    have c32b1 : decide (0 < ((rd_T35 l0_3 x41_4).f1).length) = false := decide_eq_false (by omega)
                    clear c32
                    have H' := Aside0.mk H
                    clear H
                    have p408 : 0 ≤ (x41_4 : Int) := of_decide_eq_true (by first | (with_reducible assumption) | assumption)
                    have q408 : x41_4 < (l0_3.length : Int) := of_decide_eq_true (by first | (with_reducible assumption) | assumption)
                    obtain ⟨ad408, A408_1, c408_1, e408, hx408_0, hx408_1, hl408_1, hi408_1⟩ := at_T35 HR0_3.out x41_4 p408 q408
                    cases e408
                    replace hx408_0 := (HB.out.cell (World.block_lt_of_cell? w _ hx408_0)).trans hx408_0
                    replace hx408_1 := (HB.out.cell (World.block_lt_of_cell? w _ hx408_1)).trans hx408_1
                    have HR408_1 := Aside0.mk hi408_1
                    have HC408_1 := Aside0.mk hl408_1
                    clear hi408_1 hl408_1
                    replace p408 := eq_true p408
                    replace q408 := eq_true q408
                    go_wp2_with (first | ((with_reducible refine gate_dst (N := 9) rfl ?_); refine box_event ?hg (N := 9) ?hd (cs := #[.int .i64 0, .slice none 0 0]) (t := 35) ?hr ?_; (case hd => rfl); (case hg => rfl); (case hr => first | (go_simp; done) | (go_simp; rfl)); intro gb409 hg w54 hbox hb; have n0_ := Aside0.mk (Kd.R_below (by (with_reducible repeat (first | apply Kd.R_alloc | apply Kd.R_drewN | apply Kd.R_drew)); exact HO_3.out) hb); have n1_ := Aside0.mk (blk_below (g := gb397) (o := .cells #[.slice A0_0 l0_0.length c0_0, .slice A0_1 l0_1.length c0_1, .int .i64 a0_2, .slice (some ad408) l0_3.length c0_3] 25 (0, 0)) (by (with_reducible repeat (first | refine blk_drewN ?_ _ | refine blk_drew ?_ | refine blk_alloc ?_ _)); exact BK397.out) hb); have n2_ := Aside0.mk (below_step (by repeat (first | (with_reducible first | exact HB.out | apply below_alloc | apply pw_below_drewN | apply below_drew1 | refine below_set ?_ GE397.out) | exact HB.out)) hb); have n3_ := Aside0.mk (hbox); have n4_ := Aside0.mk ((by rw [hg]; exact (below_size (by repeat (first | (with_reducible first | exact HB.out | apply below_alloc | apply pw_below_drewN | apply below_drew1 | refine below_set ?_ GE397.out) | exact HB.out))) : w.heap.size ≤ gb409)); have n5_ := Aside0.mk ((by rw [hg]; exact (below_size (by repeat (first | (with_reducible first | exact HB.out | apply below_alloc | apply pw_below_drewN | apply below_drew1 | refine below_set ?_ GE397.out) | exact HB.out))) : w.heap.size ≤ gb409)); have n6_ := Aside0.mk ((by rw [hg]; exact Nat.ne_of_lt (blk_lt (g := gb397) (o := .cells #[.slice A0_0 l0_0.length c0_0, .slice A0_1 l0_1.length c0_1, .int .i64 a0_2, .slice (some ad408) l0_3.length c0_3] 25 (0, 0)) (by (with_reducible repeat (first | refine blk_drewN ?_ _ | refine blk_drew ?_ | refine blk_alloc ?_ _)); exact BK397.out)) : gb397 ≠ gb409)); have n7_ := Aside0.mk ((by rw [hg]; exact Nat.ne_of_gt (blk_lt (g := gb397) (o := .cells #[.slice A0_0 l0_0.length c0_0, .slice A0_1 l0_1.length c0_1, .int .i64 a0_2, .slice (some ad408) l0_3.length c0_3] 25 (0, 0)) (by (with_reducible repeat (first | refine blk_drewN ?_ _ | refine blk_drew ?_ | refine blk_alloc ?_ _)); exact BK397.out)) : gb409 ≠ gb397)); clear HO_3; clear BK397; clear HB; have HO_3 := n0_; have BK397 := n1_; have HB := n2_; have BK409 := n3_; have GW409 := n4_; have GE409 := n5_; have NB397_409 := n6_; have NB409_397 := n7_; clear n0_ n1_ n2_ n3_ n4_ n5_ n6_ n7_; clear hb hbox hg; have hnb55 := NB409_397.out; have hnc55 := NB397_409.out; have hcz56_0 : w54.cell? ⟨gb409, 0, none⟩ = some (.int .i64 0) := (blk_cell BK409.out 0).trans rfl; have hcz56_1 : w54.cell? ⟨gb409, 1, none⟩ = some (.slice none 0 0) := (blk_cell BK409.out 1).trans rfl; have hfz56_0 := blk_frozen BK409.out 0; have hfz56_1 := blk_frozen BK409.out 1))
                    go_roundg k4
                    case measure => have := HJ1.out; have := HK2.out; have := HK3.out; have := HK4.out; omega
                    case rel => exact ⟨(x7_4), (wrap64 (x41_4 + 1)), (by first | rfl | (simp; done) | (simp [*]; done)), (by first | rfl | (simp; done) | (simp [*]; done)), H', ⟨by have := HJ1.out; have := HK2.out; have := HK3.out; have := HK4.out; omega⟩, ⟨by (with_reducible repeat (first | apply Kd.R_alloc | apply Kd.R_drewN | apply Kd.R_drew)); exact Kd.R_mono (Kd.R_far (p := ⟨gb409, 1, none⟩) (Kd.R_far (p := ⟨gb409, 0, none⟩) (Kd.R_types HO_3.out BK409.out (by decide)) (fun _ hk => hk.2) (.int .i64 ((rd_T35 l0_3 x41_4).f0))) (fun _ hk => hk.2) (.slice A408_1 ((rd_T35 l0_3 x41_4).f1).length c408_1)) (fun _ hk => trivial)⟩, ⟨by (with_reducible repeat (first | refine blk_drewN ?_ _ | refine blk_drew ?_ | refine blk_alloc ?_ _)); refine blk_far ?_ NB397_409.out _; (with_reducible repeat (first | refine blk_drewN ?_ _ | refine blk_drew ?_ | refine blk_alloc ?_ _)); refine blk_far ?_ NB397_409.out _; (with_reducible repeat (first | refine blk_drewN ?_ _ | refine blk_drew ?_ | refine blk_alloc ?_ _)); exact BK397.out⟩, ⟨by repeat (first | (with_reducible first | exact HB.out | apply below_alloc | apply pw_below_drewN | apply below_drew1 | refine below_set ?_ GE397.out | refine below_set ?_ GE409.out) | exact HB.out)⟩⟩
                  ·rw [if_neg c31] at H
                   exact absurd H (by simp)
                 ·rw [if_neg c30] at H
                  exact absurd H (by simp)
                ·rw [if_neg c29] at H
                 have c29b0 : decide (x41_4 < (l0_3.length : Int)) = false := decide_eq_false c29
                 clear c29
                 by_cases c57 : x7_4 = true
                 ·subst c57
                  have H1 : (if 0 ≤ x30_3 then (if x30_3 < (x3_3.length : Int) then (wickerlaw11_CornerRow.l1 k4 (x3_3.set (x30_3 : Int).toNat true) (wrap64 (x4_3 - 1)) true (l0_0.length : Int) (wrap64 (x30_3 + 1)) l0_0 l0_1 a0_2 l0_3) else (none)) else (none)) = some r := by rw [if_pos rfl] at H; exact H
                  clear H
                  have H := H1
                  clear H1
                  by_cases c58 : 0 ≤ x30_3
                  ·rw [if_pos c58] at H
                   have c58b0 : decide (0 ≤ x30_3) = true := decide_eq_true c58
                   clear c58
                   by_cases c59 : x30_3 < (x3_3.length : Int)
                   ·rw [if_pos c59] at H
                    have c59b0 : decide (x30_3 < (x3_3.length : Int)) = true := decide_eq_true c59
                    clear c59
                    obtain ⟨y407, hy407⟩ : ∃ y_ : List Bool, y_ = (x3_3.set (x30_3 : Int).toNat true) := ⟨_, rfl⟩
                    replace H : (wickerlaw11_CornerRow.l1 k4 y407 (wrap64 (x4_3 - 1)) true (l0_0.length : Int) (wrap64 (x30_3 + 1)) l0_0 l0_1 a0_2 l0_3) = some r := by first | (rw [hy407]; with_reducible exact H) | (have H2_ := (Option.bind_some _ _).symm.trans H; rw [hy407]; with_reducible exact H2_) | (have H2_ := (Option.bind_some _ _).symm.trans H; with_reducible exact H2_) | with_reducible exact H | (rw [hy407]; exact H) | exact H
                    have Ny407 := Aside0.mk hy407
                    clear hy407
                    have H' := Aside0.mk H
                    clear H
                    have p60 : 0 ≤ (x30_3 : Int) := of_decide_eq_true (by first | (with_reducible assumption) | assumption)
                    have q60 : (x30_3 : Int) < ((x3_3.length : Int) : Int) := of_decide_eq_true (by first | (with_reducible assumption) | assumption)
                    obtain ⟨go60, co60, eo60, gb60, gl60, cl60, HG60⟩ := Kd.R_form HO_3.out (by omega)
                    (first | cases eo60 | (injection eo60 with ea_ en_ ec_; (first | subst ea_ | (injection ea_ with ea_; subst ea_)); subst ec_; clear en_))
                    have GB60 := Aside0.mk gb60
                    have GG60 := Aside0.mk HG60
                    clear gb60 gl60 HG60
                    (first | simp only [add_plain] at hx406_0 | skip)
                    (first | simp only [add_plain] at hx414_0 | skip)
                    obtain ⟨hx60_0, hf60_0⟩ := Kd.R_celln false HO_3.out (x30_3 : Int) p60 q60
                    replace p60 := eq_true p60
                    replace q60 := eq_true q60
                    have HP61 := Kd.R_putg HO_3.out (x30_3 : Int) true
                    go_wp2_with (first | ((with_reducible refine gate_store (t := 4) (p := 78) rfl ?_); refine store_event (t := 4) (p := 78) (v := ?vo_w62) (w1 := (wr.setCell ⟨go60, (x30_3 : Int).toNat, none⟩ (.bool true))) ?hg ?ho ?hn ?hr ?_; (case ho => rfl); (case hg => rfl); (case hn => rfl); (case hr => first | (go_simp; done) | (go_simp; rfl)); intro w62 hw; have hg : wr.grownBy w62 (some go60) := (by rw [hw]; exact HP61.2); have hp_ : Kd.R Kd.bool 4 w62 w.heap.size (fun _ => True) (.slice (some ⟨go60, 0, none⟩) x3_3.length co27) y407 := (by rw [hw, Ny407.out]; exact HP61.1); clear HP61; have n0_ := Aside0.mk (hp_); have n1_ := Aside0.mk (blk_grown (g := gb397) (o := .cells #[.slice A0_0 l0_0.length c0_0, .slice A0_1 l0_1.length c0_1, .int .i64 a0_2, .slice A0_3 l0_3.length c0_3] 25 (0, 0)) (by (with_reducible repeat (first | refine blk_drewN ?_ _ | refine blk_drew ?_ | refine blk_alloc ?_ _)); exact BK397.out) hg (Kd.R_ne HO_3.out BK397.out (by decide))); have n2_ := Aside0.mk ((by rw [hw]; exact below_set (HB.out) GB60.out : Below w.heap.size w w62)); clear HO_3; clear BK397; clear HB; have HO_3 := n0_; have BK397 := n1_; have HB := n2_; clear n0_ n1_ n2_; clear hg hw hp_))
                    go_roundg k4
                    case measure => have := HJ1.out; have := HK2.out; have := HK3.out; have := HK4.out; omega
                    case rel => exact ⟨(y407), (wrap64 (x4_3 - 1)), (true), (wrap64 (x30_3 + 1)), (by first | rfl | (simp; done) | (simp [*]; done)), (by first | rfl | (simp; done) | (simp [*]; done)), (by first | rfl | (simp; done) | (simp [*]; done)), H', ⟨by have := HJ1.out; have := HK2.out; have := HK3.out; have := HK4.out; omega⟩, ⟨by (with_reducible repeat (first | apply Kd.R_alloc | apply Kd.R_drewN | apply Kd.R_drew)); exact HO_3.out⟩, ⟨by (with_reducible repeat (first | refine blk_drewN ?_ _ | refine blk_drew ?_ | refine blk_alloc ?_ _)); exact BK397.out⟩, ⟨by repeat (first | (with_reducible first | exact HB.out | apply below_alloc | apply pw_below_drewN | apply below_drew1 | refine below_set ?_ GE397.out) | exact HB.out)⟩⟩
                   ·rw [if_neg c59] at H
                    exact absurd H (by simp)
                  ·rw [if_neg c58] at H
                   exact absurd H (by simp)
                 ·replace c57 := Bool.eq_false_iff.mpr c57
                  subst c57
                  have H1 : (wickerlaw11_CornerRow.l1 k4 x3_3 x4_3 x5_3 (l0_0.length : Int) (wrap64 (x30_3 + 1)) l0_0 l0_1 a0_2 l0_3) = some r := by rw [if_neg (show ¬ (false = true) by decide)] at H; exact H
                  clear H
                  have H := H1
                  clear H1
                  have H' := Aside0.mk H
                  clear H
                  go_wp2
                  go_roundg k4
                  case measure => have := HJ1.out; have := HK2.out; have := HK3.out; have := HK4.out; omega
                  case rel => exact ⟨(x3_3), (x4_3), (x5_3), (wrap64 (x30_3 + 1)), (by first | rfl | (simp; done) | (simp [*]; done)), (by first | rfl | (simp; done) | (simp [*]; done)), (by first | rfl | (simp; done) | (simp [*]; done)), H', ⟨by have := HJ1.out; have := HK2.out; have := HK3.out; have := HK4.out; omega⟩, ⟨by (with_reducible repeat (first | apply Kd.R_alloc | apply Kd.R_drewN | apply Kd.R_drew)); exact HO_3.out⟩, ⟨by (with_reducible repeat (first | refine blk_drewN ?_ _ | refine blk_drew ?_ | refine blk_alloc ?_ _)); exact BK397.out⟩, ⟨by repeat (first | (with_reducible first | exact HB.out | apply below_alloc | apply pw_below_drewN | apply below_drew1 | refine below_set ?_ GE397.out) | exact HB.out)⟩⟩
             ·rw [if_neg c26] at H
              exact absurd H (by simp)
            ·rw [if_neg c25] at H
             exact absurd H (by simp)
           ·rw [if_neg c24] at H
            have c24b0 : decide (x30_3 < (l0_0.length : Int)) = false := decide_eq_false c24
            clear c24
            have H' := Aside0.mk H
            clear H
            go_wp2
            go_roundg k3
            case measure => have := HJ1.out; have := HK2.out; have := HK3.out; omega
            case rel => exact ⟨(x3_3), (x4_3), (x5_3), (by first | rfl | (simp; done) | (simp [*]; done)), (by first | rfl | (simp; done) | (simp [*]; done)), H', ⟨by have := HJ1.out; have := HK2.out; have := HK3.out; omega⟩, ⟨by (with_reducible repeat (first | apply Kd.R_alloc | apply Kd.R_drewN | apply Kd.R_drew)); exact HO_3.out⟩, ⟨by (with_reducible repeat (first | refine blk_drewN ?_ _ | refine blk_drew ?_ | refine blk_alloc ?_ _)); exact BK397.out⟩, ⟨by repeat (first | (with_reducible first | exact HB.out | apply below_alloc | apply pw_below_drewN | apply below_drew1 | refine below_set ?_ GE397.out) | exact HB.out)⟩⟩
        ·replace c22 := Bool.eq_false_iff.mpr c22
         subst c22
         have H1 : ((wickerlaw11_Awake.f k2).bind fun t404 => (if t404 = true then ((corner_Straight.f k2 l0_0 l0_1 a0_2 l0_3).bind fun t405 => (some (t405 == (x4_2 == 0)))) else (some false))) = some r := by rw [if_neg (show ¬ (false = true) by decide)] at H; exact H
         clear H
         have H := H1
         clear H1
         replace H := Option.bind_eq_some_iff.mp H
         obtain ⟨t404, A630, H⟩ := H
         replace H : (if t404 = true then ((corner_Straight.f k2 l0_0 l0_1 a0_2 l0_3).bind fun t405 => (some (t405 == (x4_2 == 0)))) else (some false)) = some r := H
         have A63 := Aside0.mk A630
         clear A630
         by_cases c64 : t404 = true
         ·subst c64
          have H1 : ((corner_Straight.f k2 l0_0 l0_1 a0_2 l0_3).bind fun t405 => (some (t405 == (x4_2 == 0)))) = some r := by rw [if_pos rfl] at H; exact H
          clear H
          have H := H1
          clear H1
          replace H := Option.bind_eq_some_iff.mp H
          obtain ⟨t405, A650, H⟩ := H
          replace H : (some (t405 == (x4_2 == 0))) = some r := H
          have A65 := Aside0.mk A650
          clear A650
          obtain rfl := Option.some.inj H
          go_wp2_with (first | ((with_reducible refine gate_callee (f := 35) rfl ?_); refine goesL_ (some 82) rfl rfl Tryd.func35 (by kernel_rfl) rfl #[] rfl (by (try simp only [List.map_toArray, List.map_cons, List.map_nil]); first | done | rfl | (simp only [List.length_drop, List.length_take]; rfl)) ?_; (with_reducible refine (wickerlaw11_Awake.calls k2  true _ ?side1 A63.out).mono ?_); (case side1 => exact Laid.below HG.out (by repeat (first | (with_reducible first | exact HB.out | apply below_alloc | apply pw_below_drewN | apply below_drew1 | refine below_set ?_ GE397.out) | exact HB.out))); rintro e w66 ⟨rfl, hb⟩; refine ⟨_, rfl, ?_⟩; have n0_ := Aside0.mk (Kd.R_below (by (with_reducible repeat (first | apply Kd.R_alloc | apply Kd.R_drewN | apply Kd.R_drew)); exact HO_3.out) hb); have n1_ := Aside0.mk (blk_below (g := gb397) (o := .cells #[.slice A0_0 l0_0.length c0_0, .slice A0_1 l0_1.length c0_1, .int .i64 a0_2, .slice A0_3 l0_3.length c0_3] 25 (0, 0)) (by (with_reducible repeat (first | refine blk_drewN ?_ _ | refine blk_drew ?_ | refine blk_alloc ?_ _)); exact BK397.out) hb); have n2_ := Aside0.mk (below_step (by repeat (first | (with_reducible first | exact HB.out | apply below_alloc | apply pw_below_drewN | apply below_drew1 | refine below_set ?_ GE397.out) | exact HB.out)) hb); clear HO_3; clear BK397; clear HB; have HO_3 := n0_; have BK397 := n1_; have HB := n2_; clear n0_ n1_ n2_; (try clear hb); (try clear hb2); (try clear hk); (try clear hi); have hcz67_0 : w66.cell? ⟨gb397, 0, none⟩ = some (.slice A0_0 l0_0.length c0_0) := (blk_cell BK397.out 0).trans rfl; have hcz67_1 : w66.cell? ⟨gb397, 1, none⟩ = some (.slice A0_1 l0_1.length c0_1) := (blk_cell BK397.out 1).trans rfl; have hcz67_2 : w66.cell? ⟨gb397, 2, none⟩ = some (.int .i64 a0_2) := (blk_cell BK397.out 2).trans rfl; have hcz67_3 : w66.cell? ⟨gb397, 3, none⟩ = some (.slice A0_3 l0_3.length c0_3) := (blk_cell BK397.out 3).trans rfl; have hfz67_0 := blk_frozen BK397.out 0; have hfz67_1 := blk_frozen BK397.out 1; have hfz67_2 := blk_frozen BK397.out 2; have hfz67_3 := blk_frozen BK397.out 3) | (go_at_call 36; (with_reducible refine (corner_Straight.calls k2 _ _ l0_0 _ _ l0_1 a0_2 _ _ l0_3 t405 _ ?side1 ?side2 ?side3 ?side4 ?side5 ?side6 ?side7 A65.out).mono ?_); (case side1 => exact Laid.below HG.out (by repeat (first | (with_reducible first | exact HB.out | apply below_alloc | apply pw_below_drewN | apply below_drew1 | refine below_set ?_ GE397.out) | exact HB.out))); (case side2 => repeat (first | exact (Kd.C_below HR0_0.out HB.out) | (with_reducible refine Kd.C_alloc ?_ _) | (with_reducible refine Kd.C_drewN ?_ _) | (with_reducible refine Kd.C_drew ?_))); (case side3 => exact HC0_0.out); (case side4 => repeat (first | exact (Kd.C_below HR0_1.out HB.out) | (with_reducible refine Kd.C_alloc ?_ _) | (with_reducible refine Kd.C_drewN ?_ _) | (with_reducible refine Kd.C_drew ?_))); (case side5 => exact HC0_1.out); (case side6 => repeat (first | exact (Kd.C_below HR0_3.out HB.out) | (with_reducible refine Kd.C_alloc ?_ _) | (with_reducible refine Kd.C_drewN ?_ _) | (with_reducible refine Kd.C_drew ?_))); (case side7 => exact HC0_3.out); rintro e w68 ⟨rfl, hb⟩; have n0_ := Aside0.mk (Kd.R_below (by (with_reducible repeat (first | apply Kd.R_alloc | apply Kd.R_drewN | apply Kd.R_drew)); exact HO_3.out) hb); have n1_ := Aside0.mk (blk_below (g := gb397) (o := .cells #[.slice A0_0 l0_0.length c0_0, .slice A0_1 l0_1.length c0_1, .int .i64 a0_2, .slice A0_3 l0_3.length c0_3] 25 (0, 0)) (by (with_reducible repeat (first | refine blk_drewN ?_ _ | refine blk_drew ?_ | refine blk_alloc ?_ _)); exact BK397.out) hb); have n2_ := Aside0.mk (below_step (by repeat (first | (with_reducible first | exact HB.out | apply below_alloc | apply pw_below_drewN | apply below_drew1 | refine below_set ?_ GE397.out) | exact HB.out)) hb); clear HO_3; clear BK397; clear HB; have HO_3 := n0_; have BK397 := n1_; have HB := n2_; clear n0_ n1_ n2_; (try clear hb); (try clear hb2); (try clear hk); (try clear hi)))
          go_ret
          exact ⟨by first | rfl | (simp [errW_none, errW_some] <;> rfl) | (simp [*, errW_none, errW_some] <;> rfl), by repeat (first | (with_reducible first | exact HB.out | apply below_alloc | apply pw_below_drewN | apply below_drew1 | refine below_set ?_ GE397.out) | exact HB.out)⟩
         ·replace c64 := Bool.eq_false_iff.mpr c64
          subst c64
          have H1 : (some false) = some r := by rw [if_neg (show ¬ (false = true) by decide)] at H; exact H
          clear H
          have H := H1
          clear H1
          obtain rfl := Option.some.inj H
          go_wp2_with (first | ((with_reducible refine gate_callee (f := 35) rfl ?_); refine goesL_ (some 82) rfl rfl Tryd.func35 (by kernel_rfl) rfl #[] rfl (by (try simp only [List.map_toArray, List.map_cons, List.map_nil]); first | done | rfl | (simp only [List.length_drop, List.length_take]; rfl)) ?_; (with_reducible refine (wickerlaw11_Awake.calls k2  false _ ?side1 A63.out).mono ?_); (case side1 => exact Laid.below HG.out (by repeat (first | (with_reducible first | exact HB.out | apply below_alloc | apply pw_below_drewN | apply below_drew1 | refine below_set ?_ GE397.out) | exact HB.out))); rintro e w69 ⟨rfl, hb⟩; refine ⟨_, rfl, ?_⟩; have n0_ := Aside0.mk (Kd.R_below (by (with_reducible repeat (first | apply Kd.R_alloc | apply Kd.R_drewN | apply Kd.R_drew)); exact HO_3.out) hb); have n1_ := Aside0.mk (blk_below (g := gb397) (o := .cells #[.slice A0_0 l0_0.length c0_0, .slice A0_1 l0_1.length c0_1, .int .i64 a0_2, .slice A0_3 l0_3.length c0_3] 25 (0, 0)) (by (with_reducible repeat (first | refine blk_drewN ?_ _ | refine blk_drew ?_ | refine blk_alloc ?_ _)); exact BK397.out) hb); have n2_ := Aside0.mk (below_step (by repeat (first | (with_reducible first | exact HB.out | apply below_alloc | apply pw_below_drewN | apply below_drew1 | refine below_set ?_ GE397.out) | exact HB.out)) hb); clear HO_3; clear BK397; clear HB; have HO_3 := n0_; have BK397 := n1_; have HB := n2_; clear n0_ n1_ n2_; (try clear hb); (try clear hb2); (try clear hk); (try clear hi)))
          go_ret
          exact ⟨by first | rfl | (simp [errW_none, errW_some] <;> rfl) | (simp [*, errW_none, errW_some] <;> rfl), by repeat (first | (with_reducible first | exact HB.out | apply below_alloc | apply pw_below_drewN | apply below_drew1 | refine below_set ?_ GE397.out) | exact HB.out)⟩
     ·rw [if_neg c17] at H
      exact absurd H (by simp)
    ·rw [if_neg c16] at H
     exact absurd H (by simp)
end Go.Proofs.YtgdcnmpcfoomiaaDoor.G
end
section
set_option linter.unusedVariables false
set_option linter.unusedSimpArgs false
namespace Go.Proofs.YtgdcnmpcfoomiaaDoor.G
open Go Go.RowKit Go.Proofs.YtgdcnmpcfoomiaaDoorW.PrintWords Go.Proofs.YtgdcnmpcfoomiaaDoor.Pure
def Edge (l3 : List GRule) (x y : Nat) : Prop := ∃ r ∈ l3, r.f0 = (x : Int) ∧ firstI r = (y : Int)
inductive Rch (l3 : List GRule) : Nat → Nat → Prop
  | one {x y : Nat} : Edge l3 x y → Rch l3 x y
  | more {x y z : Nat} : Rch l3 x y → Edge l3 y z → Rch l3 x z
theorem Rch.ahead {l3 : List GRule} {x y z : Nat} (e : Edge l3 x y) (h : Rch l3 y z) : Rch l3 x z := by
  induction h with
  | one e2 => exact .more (.one e) e2
  | more _ e2 ih => exact .more ih e2
def Fit (n : Nat) (l3 : List GRule) : Prop := ∀ r ∈ l3, 0 ≤ r.f0 ∧ r.f0 < n ∧ (firstI r < n ∨ firstI r = -1)
theorem fit_of {l0 l1 : List ByteArray} {a2 : Int} {l3 : List GRule} (h : checkC nmB mkB l0 l1 a2 l3 = 0) : Fit l0.length l3 := fun r hr => by
  have := (check_zero h).2.2.2.2.2.2.1 r hr
  exact ⟨this.1, this.2.1, first_lt (m := l1.length) this.2.2.2⟩
theorem edge_lt {n : Nat} {l3 : List GRule} (hf : Fit n l3) {x y : Nat} (e : Edge l3 x y) : x < n ∧ y < n := by
  obtain ⟨r, hr, h0, h1⟩ := e
  have := hf r hr
  omega
theorem rch_lt {n : Nat} {l3 : List GRule} (hf : Fit n l3) {x y : Nat} (e : Rch l3 x y) : x < n ∧ y < n := by
  induction e with
  | one e => exact edge_lt hf e
  | more _ e ih => exact ⟨ih.1, (edge_lt hf e).2⟩
theorem bloop_len (a : Int) (l3 : List GRule) : ∀ (k : Nat) (out : List Bool), (bloop a l3 k out).length = out.length := by
  intro k
  induction k with
  | zero => intro out; rfl
  | succ k ih =>
    intro out
    rw [bloop]
    split
    · rfl
    · rw [ih, List.length_set]
theorem bloop_spec {n : Nat} {l3 : List GRule} (hf : Fit n l3) (a : Nat) : ∀ (k : Nat) (out : List Bool), out.length = n → out.count false ≤ k → (∀ y, out.getD y false = true → Rch l3 a y) →
    ∀ y, (bloop a l3 k out).getD y false = true ↔ Rch l3 a y := by
  have closed : ∀ (out : List Bool), out.length = n → (∀ r ∈ l3, hitB a out r = false) → (∀ y, out.getD y false = true → Rch l3 a y) → ∀ y, out.getD y false = true ↔ Rch l3 a y := by
    intro out hl hn hs y
    refine ⟨hs y, fun h => ?_⟩
    have step : ∀ x y, (x = a ∨ out.getD x false = true) → Edge l3 x y → out.getD y false = true := by
      intro x y hx he
      obtain ⟨r, hr, h0, h1⟩ := he
      have h2 := hn r hr
      have hy := edge_lt hf ⟨r, hr, h0, h1⟩
      unfold hitB at h2
      rw [h0, h1, Int.toNat_natCast, Int.toNat_natCast, decide_eq_true (by omega), Bool.true_and] at h2
      have h3 : (decide ((x : Int) = (a : Int)) || out.getD x false) = true := by
        rcases hx with rfl | hx
        · simp
        · rw [hx]; simp
      rw [h3, Bool.and_true] at h2
      rw [getD_any (by rw [hl]; exact hy.2) false true]
      simpa using h2
    induction h with
    | one e => exact step _ _ (.inl rfl) e
    | more _ e ih => exact step _ _ (.inr (ih)) e
  intro k
  induction k with
  | zero =>
    intro out hl hc hs
    refine closed out hl (fun r hr => ?_) hs
    cases hh : hitB a out r with
    | false => rfl
    | true =>
      unfold hitB at hh
      simp only [Bool.and_eq_true, decide_eq_true_eq, Bool.not_eq_true'] at hh
      have := hf r hr
      have := count_pos_false (xs := out) (i := (firstI r).toNat) (by omega) hh.2.1
      omega
  | succ k ih =>
    intro out hl hc hs
    rw [bloop]
    split
    · rename_i hnone
      exact closed out hl (fun r hr => by simpa using List.find?_eq_none.1 hnone r hr) hs
    · rename_i r hsome
      have hr := List.mem_of_find?_eq_some hsome
      have hh := List.find?_some hsome
      unfold hitB at hh
      simp only [Bool.and_eq_true, decide_eq_true_eq, Bool.not_eq_true', Bool.or_eq_true] at hh
      have hfr := hf r hr
      have hlt : (firstI r).toNat < out.length := by omega
      refine ih _ (by rw [List.length_set]; exact hl) (by have := count_set_true out _ hlt hh.2.1; omega) (fun y hy => ?_)
      rw [getD_set_true] at hy
      by_cases e : (firstI r).toNat = y ∧ (firstI r).toNat < out.length
      · have he : Edge l3 r.f0.toNat y := ⟨r, hr, by omega, by omega⟩
        rcases hh.2.2 with h | h
        · rw [show r.f0.toNat = a by omega] at he
          exact .one he
        · exact .more (hs _ h) he
      · rw [if_neg e] at hy
        exact hs y hy
theorem beg_spec {l0 l1 : List ByteArray} {a2 : Int} {l3 : List GRule} (h : checkC nmB mkB l0 l1 a2 l3 = 0) (a : Nat) (ha : a < l0.length) (y : Nat) : (begC l0 l1 a2 l3 a).length = l0.length ∧ ((begC l0 l1 a2 l3 a).getD y false = true ↔ Rch l3 a y) := by
  rw [begC, if_pos ⟨h, by omega, by omega⟩]
  refine ⟨by rw [bloop_len, List.length_replicate], bloop_spec (fit_of h) a _ _ List.length_replicate (by rw [List.count_replicate_self]; exact Nat.le_refl _) (fun y hy => ?_) y⟩
  rw [List.getD_eq_getElem?_getD, List.getElem?_replicate] at hy
  split at hy <;> simp at hy
section
variable (l0 l1 : List ByteArray) (a2 : Int) (l3 : List GRule) (hg : gramOk l0 l1 a2 l3 = true) (hc : checkC nmB mkB l0 l1 a2 l3 = 0)
include hg hc
omit hc in
theorem beg_f (a : Int) : corner_Begins.f l0 l1 a2 l3 a = some (begC l0 l1 a2 l3 a) := by unfold corner_Begins.f; rw [if_pos hg]
theorem turns_l0 (acc : List Int) (hn : acc.length ≤ 1000000) : ∀ (d i : Nat) (acc : List Int), i + d = l0.length → acc.length ≤ i → ∃ R : List Int, (R = [] ↔ acc = [] ∧ ∀ x, i ≤ x → x < l0.length → ¬ Rch l3 x x) ∧ Ev (fun k => corner_Turns.l0 k acc (l0.length : Int) (i : Int) l0 l1 a2 l3) R := by
  have hz := check_zero hc
  intro d
  induction d with
  | zero =>
    intro i acc hi ha
    refine ⟨acc, ⟨fun h => ⟨h, fun x h1 h2 => by omega⟩, fun h => h.1⟩, ev_nowS fun k => ?_⟩
    rw [corner_Turns.l0, if_neg (by omega)]
  | succ d ih =>
    intro i acc hi ha
    have hi1 : i < l0.length := by omega
    obtain ⟨hbl, hbs⟩ := beg_spec hc i hi1 i
    by_cases hr : Rch l3 i i
    · obtain ⟨R, hR, hev⟩ := ih (i + 1) (acc ++ [(i : Int)]) (by omega) (by rw [List.length_append]; simp; omega)
      refine ⟨R, ⟨fun h => by simpa using (hR.1 h).1, fun h => absurd hr (h.2 i (by omega) hi1)⟩, Ev.step (fun k => ?_) hev⟩
      rw [corner_Turns.l0, if_pos (by omega), beg_f l0 l1 a2 l3 hg, Option.bind_some, if_pos (by omega), if_pos (by rw [hbl]; omega), rdOf_getD, if_pos (hbs.2 hr), if_pos (by omega), wsucc (by omega)]
    · obtain ⟨R, hR, hev⟩ := ih (i + 1) acc (by omega) (by omega)
      refine ⟨R, ?_, Ev.step (fun k => ?_) hev⟩
      · rw [hR]
        refine ⟨fun h => ⟨h.1, fun x h1 h2 => ?_⟩, fun h => ⟨h.1, fun x h1 h2 => h.2 x (by omega) h2⟩⟩
        by_cases e : x = i
        · rw [e]; exact hr
        · exact h.2 x (by omega) h2
      · rw [corner_Turns.l0, if_pos (by omega), beg_f l0 l1 a2 l3 hg, Option.bind_some, if_pos (by omega), if_pos (by rw [hbl]; omega), rdOf_getD, if_neg (fun h => hr (hbs.1 h)), wsucc (by omega)]
theorem straight_f : ∃ b : Bool, (b = true ↔ ∀ x, x < l0.length → ¬ Rch l3 x x) ∧ Ev (fun k => corner_Straight.f k l0 l1 a2 l3) b := by
  obtain ⟨R, hR, hev⟩ := turns_l0 l0 l1 a2 l3 hg hc [] (by simp) l0.length 0 [] (by omega) (by simp)
  refine ⟨((R.length : Int) == 0), ?_, ?_⟩
  · rw [show (((R.length : Int) == 0) = true) ↔ R = [] by simp, hR]
    exact ⟨fun h x hx => h.2 x (by omega) hx, fun h => ⟨rfl, fun x _ hx => h x hx⟩⟩
  · unfold corner_Straight.f gram_Grammar_Check.f
    rw [if_pos hg]
    refine Ev.got rfl (Ev.pos hc ?_)
    have ht : Ev (fun k => corner_Turns.f k l0 l1 a2 l3) R := by
      unfold corner_Turns.f gram_Grammar_Check.f
      rw [if_pos hg]
      exact Ev.got rfl (Ev.pos hc hev)
    exact Ev.bind ht (Ev.now _)
end
theorem awake11_at : wickerlaw11_Awake.f 60 = some true := by kernel_rfl
theorem awake11 : Ev wickerlaw11_Awake.f true := Ev.of wickerlaw11_Awake.mono awake11_at
structure Taken (n : Nat) (l3 : List GRule) (gone : List Bool) : Prop where
  len : gone.length = n
  pre : ∀ x y, Edge l3 x y → gone.getD y false = true → gone.getD x false = true
  noc : ∀ y, gone.getD y false = true → ¬ Rch l3 y y
theorem Taken.back {n : Nat} {l3 : List GRule} {gone : List Bool} (h : Taken n l3 gone) {x y : Nat} (e : Rch l3 x y) : gone.getD y false = true → gone.getD x false = true := by
  induction e with
  | one e => exact h.pre _ _ e
  | more _ e ih => exact fun hy => ih (h.pre _ _ e hy)
theorem Taken.add {n : Nat} {l3 : List GRule} {gone : List Bool} (h : Taken n l3 gone) {a : Nat} (ha : a < n) (hf : gone.getD a false = false) (hp : ∀ x, Edge l3 x a → gone.getD x false = true) : Taken n l3 (gone.set a true) := by
  have up : ∀ x, gone.getD x false = true → (gone.set a true).getD x false = true := fun x hx => by
    rw [getD_set_true]; split
    · rfl
    · exact hx
  have down : ∀ y, (gone.set a true).getD y false = true → y = a ∨ gone.getD y false = true := fun y hy => by
    rw [getD_set_true] at hy
    split at hy
    · rename_i e; exact .inl e.1.symm
    · exact .inr hy
  refine ⟨by rw [List.length_set]; exact h.len, fun x y e hy => ?_, fun y hy hr => ?_⟩
  · rcases down y hy with rfl | hy
    · exact up x (hp x e)
    · exact up x (h.pre x y e hy)
  · rcases down y hy with rfl | hy
    · have : gone.getD y false = true := by
        cases hr with
        | one e => exact hp _ e
        | more h1 e => exact h.back h1 (hp _ e)
      rw [hf] at this; cases this
    · exact h.noc y hy hr
theorem nodup_lt : ∀ (n : Nat) (L : List Nat), L.Nodup → (∀ x ∈ L, x < n) → L.length ≤ n := by
  intro n
  induction n with
  | zero =>
    intro L _ h
    cases L with
    | nil => simp
    | cons a L => exact absurd (h a (by simp)) (by omega)
  | succ n ih =>
    intro L hd h
    have h1 := ih (L.erase n) (hd.erase n) (fun x hx => by
      have := h x (List.mem_of_mem_erase hx)
      have hne : x ≠ n := fun e => by subst e; exact hd.not_mem_erase hx
      omega)
    have h2 := List.length_erase (a := n) (l := L)
    split at h2 <;> omega
theorem exists_false {xs : List Bool} (h : 1 ≤ xs.count false) : ∃ i, i < xs.length ∧ xs.getD i false = false := by
  induction xs with
  | nil => simp at h
  | cons a xs ih =>
    cases a with
    | false => exact ⟨0, by simp, rfl⟩
    | true =>
      obtain ⟨i, hi, hf⟩ := ih (by simpa using h)
      exact ⟨i + 1, by simpa using hi, by simpa using hf⟩
theorem stuck_cycle {n : Nat} {l3 : List GRule} (hfit : Fit n l3) {gone : List Bool} (hl : gone.length = n) (h1 : 1 ≤ gone.count false) (hs : ∀ a, a < n → gone.getD a false = true ∨ ∃ x, Edge l3 x a ∧ gone.getD x false = false) : ∃ x, x < n ∧ Rch l3 x x := by
  refine Classical.byContradiction fun hno => ?_
  have hno : ∀ x, ¬ Rch l3 x x := fun x hx => hno ⟨x, (rch_lt hfit hx).1, hx⟩
  have chain : ∀ m, ∃ L : List Nat, L.length = m + 1 ∧ (∀ x ∈ L, x < n ∧ gone.getD x false = false) ∧ L.Pairwise (Rch l3) := by
    intro m
    induction m with
    | zero =>
      obtain ⟨i, hi, hf⟩ := exists_false h1
      exact ⟨[i], rfl, fun x hx => by rw [List.mem_singleton.1 hx]; exact ⟨by omega, hf⟩, List.pairwise_singleton _ _⟩
    | succ m ih =>
      obtain ⟨L, hL, hU, hP⟩ := ih
      cases L with
      | nil => simp at hL
      | cons x L =>
        obtain ⟨hx1, hx2⟩ := hU x (by simp)
        rcases hs x hx1 with h | ⟨p, he, hp⟩
        · rw [hx2] at h; cases h
        · refine ⟨p :: x :: L, by simp at hL ⊢; omega, fun y hy => ?_, List.pairwise_cons.2 ⟨fun y hy => ?_, hP⟩⟩
          · rcases List.mem_cons.1 hy with rfl | hy
            · exact ⟨(edge_lt hfit he).1, hp⟩
            · exact hU y hy
          · rcases List.mem_cons.1 hy with rfl | hy
            · exact .one he
            · exact .ahead he ((List.pairwise_cons.1 hP).1 y hy)
  obtain ⟨L, hL, hU, hP⟩ := chain n
  have := nodup_lt n L (hP.imp fun {x y} h e => by subst e; exact hno x h) (fun x hx => (hU x hx).1)
  omega
def badB (gone : List Bool) (a : Nat) (r : GRule) : Bool := decide (firstI r = (a : Int)) && !(gone.getD r.f0.toNat false)
theorem bad_iff {n : Nat} {l3 : List GRule} (hf : Fit n l3) (gone : List Bool) (a : Nat) : l3.any (badB gone a) = true ↔ ∃ x, Edge l3 x a ∧ gone.getD x false = false := by
  rw [List.any_eq_true]
  constructor
  · rintro ⟨r, hr, hb⟩
    simp only [badB, Bool.and_eq_true, decide_eq_true_eq, Bool.not_eq_true'] at hb
    have := hf r hr
    exact ⟨r.f0.toNat, ⟨r, hr, by omega, hb.1⟩, hb.2⟩
  · rintro ⟨x, ⟨r, hr, h0, h1⟩, hx⟩
    refine ⟨r, hr, ?_⟩
    simp only [badB, Bool.and_eq_true, decide_eq_true_eq, Bool.not_eq_true']
    rw [h0, Int.toNat_natCast]
    exact ⟨h1, hx⟩
section
variable (l0 l1 : List ByteArray) (a2 : Int) (l3 : List GRule) (hg : gramOk l0 l1 a2 l3 = true) (hc : checkC nmB mkB l0 l1 a2 l3 = 0)
include hg hc
theorem row_step (gone : List Bool) (hl : gone.length = l0.length) (left : Int) (moved free : Bool) (a : Nat) (ha : a < l0.length) (j : Nat) (hj : j < l3.length) (k : Nat) :
    wickerlaw11_CornerRow.l2 (k + 1) gone left moved (a : Int) free (l0.length : Int) (a : Int) l3 (l3.length : Int) (j : Int) l0 l1 a2 l3 = wickerlaw11_CornerRow.l2 k gone left moved (a : Int) (free && !badB gone a l3[j]) (l0.length : Int) (a : Int) l3 (l3.length : Int) ((j + 1 : Nat) : Int) l0 l1 a2 l3 := by
  have hz := check_zero hc
  obtain ⟨r, hr⟩ : ∃ r, r = l3[j] := ⟨_, rfl⟩
  have hm : r ∈ l3 := by rw [hr]; exact List.getElem_mem _
  have hv := hz.2.2.2.2.2.2.1 r hm
  have hok := List.all_eq_true.1 (gram_rules_ok hg) r hm
  rw [wickerlaw11_CornerRow.l2, if_pos (by omega), if_pos (by omega), if_pos (by omega), rdG l3 j hj, ← hr, wsucc (by omega)]
  obtain ⟨f0, f1⟩ := r
  cases f1 with
  | nil =>
    rw [if_neg (by simp), show badB gone a (⟨f0, []⟩ : GRule) = false by simp [badB, firstI]]
    simp
  | cons s f1 =>
    have hs : symOk s = true := by
      simp only [ruleOk, Bool.and_eq_true] at hok
      exact List.all_eq_true.1 hok.2 s (by simp)
    have hfirst : firstI (⟨f0, s :: f1⟩ : GRule) = if s < 0 then -1 else s := rfl
    rw [if_pos (by simp), if_pos (by simp), show rd (s :: f1) 0 = s from rfl, isTerm_f, Option.bind_some]
    by_cases h0 : s < 0
    · rw [if_pos (decide_eq_true h0), show badB gone a (⟨f0, s :: f1⟩ : GRule) = false by rw [badB, hfirst, if_pos h0]; simp]
      simp
    · rw [if_neg (by simp [h0]), place_f s hs, if_neg h0, Option.bind_some]
      by_cases he : s = (a : Int)
      · have v0 : 0 ≤ f0 := hv.1
        have v1 : f0 < (l0.length : Int) := hv.2.1
        rw [if_pos he, if_pos v0, if_pos (by omega)]
        have e1 : rdOf false gone f0 = gone.getD f0.toNat false := rfl
        have e2 : badB gone a (⟨f0, s :: f1⟩ : GRule) = !(gone.getD f0.toNat false) := by rw [badB, hfirst, if_neg h0, he]; simp
        rw [e1, e2]
        cases gone.getD f0.toNat false with
        | true => simp
        | false => simp
      · rw [if_neg he, show badB gone a (⟨f0, s :: f1⟩ : GRule) = false by rw [badB, hfirst, if_neg h0, decide_eq_false he]; rfl]
        simp
theorem row_l2 (gone : List Bool) (hl : gone.length = l0.length) (left : Int) (moved : Bool) (a : Nat) (ha : a < l0.length) (R : Bool)
    (hyes : gone.getD a false = false → l3.any (badB gone a) = false → Ev (fun k => wickerlaw11_CornerRow.l1 k (gone.set a true) (wrap64 (left - 1)) true (l0.length : Int) ((a + 1 : Nat) : Int) l0 l1 a2 l3) R)
    (hno : (gone.getD a false = true ∨ l3.any (badB gone a) = true) → Ev (fun k => wickerlaw11_CornerRow.l1 k gone left moved (l0.length : Int) ((a + 1 : Nat) : Int) l0 l1 a2 l3) R) :
    ∀ (d j : Nat) (free : Bool), j + d = l3.length → free = (!(gone.getD a false) && !(l3.take j).any (badB gone a)) →
    Ev (fun k => wickerlaw11_CornerRow.l2 k gone left moved (a : Int) free (l0.length : Int) (a : Int) l3 (l3.length : Int) (j : Int) l0 l1 a2 l3) R := by
  have hz := check_zero hc
  intro d
  induction d with
  | zero =>
    intro j free hj hf
    rw [List.take_of_length_le (by omega)] at hf
    cases free with
    | true =>
      simp only [Bool.true_eq, Bool.and_eq_true, Bool.not_eq_true'] at hf
      refine Ev.step (fun k => ?_) (hyes hf.1 hf.2)
      rw [wickerlaw11_CornerRow.l2, if_neg (by omega), if_pos rfl, if_pos (by omega), if_pos (by omega), Int.toNat_natCast, wsucc (by omega)]
    | false =>
      refine Ev.step (fun k => ?_) (hno ?_)
      · rw [wickerlaw11_CornerRow.l2, if_neg (by omega), if_neg (by simp), wsucc (by omega)]
      · cases h1 : gone.getD a false with
        | true => exact .inl rfl
        | false =>
          rw [h1] at hf
          right
          simpa using hf.symm
  | succ d ih =>
    intro j free hj hf
    have hj1 : j < l3.length := by omega
    refine Ev.step (fun k => row_step l0 l1 a2 l3 hg hc gone hl left moved free a ha j hj1 k) (ih (j + 1) _ (by omega) ?_)
    rw [hf, List.take_succ_eq_append_getElem hj1, List.any_append]
    simp [Bool.and_assoc]
theorem row_l1 (c : Nat) (hnext : ∀ gone : List Bool, Taken l0.length l3 gone → gone.count false < c → Ev (fun k => wickerlaw11_CornerRow.l0 k gone (gone.count false : Int) true l0 l1 a2 l3) true) (hend : ∀ gone : List Bool, Taken l0.length l3 gone → gone.count false = c → (∀ a, a < l0.length → gone.getD a false = true ∨ ∃ x, Edge l3 x a ∧ gone.getD x false = false) → Ev (fun k => wickerlaw11_CornerRow.l0 k gone (gone.count false : Int) false l0 l1 a2 l3) true) :
    ∀ (d a : Nat) (gone : List Bool) (moved : Bool), a + d = l0.length → Taken l0.length l3 gone → (moved = true → gone.count false < c) → (moved = false → gone.count false = c ∧ ∀ x, x < a → gone.getD x false = true ∨ ∃ y, Edge l3 y x ∧ gone.getD y false = false) →
    Ev (fun k => wickerlaw11_CornerRow.l1 k gone (gone.count false : Int) moved (l0.length : Int) (a : Int) l0 l1 a2 l3) true := by
  have hz := check_zero hc
  have hfit := fit_of hc
  intro d
  induction d with
  | zero =>
    intro a gone moved ha ht hm1 hm0
    cases moved with
    | true =>
      refine Ev.step (fun k => ?_) (hnext gone ht (hm1 rfl))
      rw [wickerlaw11_CornerRow.l1, if_neg (by omega)]
    | false =>
      refine Ev.step (fun k => ?_) (hend gone ht (hm0 rfl).1 (fun x hx => (hm0 rfl).2 x (by omega)))
      rw [wickerlaw11_CornerRow.l1, if_neg (by omega)]
  | succ d ih =>
    intro a gone moved ha ht hm1 hm0
    have ha1 : a < l0.length := by omega
    have hcl : gone.count false ≤ l0.length := by rw [← ht.len]; exact List.count_le_length
    refine Ev.step (fun k => ?_) (row_l2 l0 l1 a2 l3 hg hc gone ht.len (gone.count false : Int) moved a ha1 true (fun h1 h2 => ?_) (fun h => ?_) l3.length 0 (!(gone.getD a false)) (by omega) (by simp))
    · rw [wickerlaw11_CornerRow.l1, if_pos (by omega), if_pos (by omega), if_pos (by rw [ht.len]; omega), rdOf_getD]; rfl
    · have hcnt := count_set_true gone a (by rw [ht.len]; exact ha1) (by rw [getD_any (by rw [ht.len]; exact ha1) true false]; exact h1)
      have hadd := ht.add ha1 h1 (fun x hx => by
        cases hh : gone.getD x false with
        | true => rfl
        | false =>
          have := (bad_iff hfit gone a).2 ⟨x, hx, hh⟩
          rw [h2] at this; cases this)
      have e : wrap64 ((gone.count false : Int) - 1) = ((gone.set a true).count false : Int) := by rw [w64 (by omega) (by omega)]; omega
      rw [e]
      refine ih (a + 1) _ true (by omega) hadd (fun _ => ?_) (fun h => by cases h)
      cases moved with
      | true => have := hm1 rfl; omega
      | false => have := (hm0 rfl).1; omega
    · refine ih (a + 1) gone moved (by omega) ht hm1 (fun h0 => ⟨(hm0 h0).1, fun x hx => ?_⟩)
      by_cases e : x = a
      · subst e
        rcases h with h | h
        · exact .inl h
        · exact .inr ((bad_iff hfit gone x).1 h)
      · exact (hm0 h0).2 x (by omega)
theorem row_end (gone : List Bool) (ht : Taken l0.length l3 gone) (hs : ∀ a, a < l0.length → gone.getD a false = true ∨ ∃ x, Edge l3 x a ∧ gone.getD x false = false) : Ev (fun k => wickerlaw11_CornerRow.l0 k gone (gone.count false : Int) false l0 l1 a2 l3) true := by
  obtain ⟨b, hb, hev⟩ := straight_f l0 l1 a2 l3 hg hc
  have key : (b == ((gone.count false : Int) == 0)) = true := by
    by_cases h0 : gone.count false = 0
    · have : b = true := hb.2 fun x hx => ht.noc x (by
        cases hh : gone.getD x false with
        | true => rfl
        | false =>
          have := count_pos_false (xs := gone) (i := x) (by rw [ht.len]; exact hx) (by rw [getD_any (by rw [ht.len]; exact hx) true false]; exact hh)
          omega)
      rw [this, h0]; rfl
    · obtain ⟨x, hx, hr⟩ := stuck_cycle (fit_of hc) ht.len (by omega) hs
      have : b = false := by
        cases b with
        | false => rfl
        | true => exact absurd hr (hb.1 rfl x hx)
      rw [this]
      simp [h0]
  refine Ev.step (f := fun k => (wickerlaw11_Awake.f k).bind fun t => if t = true then (corner_Straight.f k l0 l1 a2 l3).bind fun t => some (t == ((gone.count false : Int) == 0)) else some false) (fun k => ?_) (Ev.bind awake11 (Ev.pos rfl (Ev.bind hev (Ev.eq (Ev.now _) key))))
  rw [wickerlaw11_CornerRow.l0, if_neg (by simp)]
theorem row_l0 : ∀ (c : Nat) (gone : List Bool), Taken l0.length l3 gone → gone.count false = c → Ev (fun k => wickerlaw11_CornerRow.l0 k gone (gone.count false : Int) true l0 l1 a2 l3) true := by
  intro c
  induction c using Nat.strongRecOn with
  | _ c ih =>
    intro gone ht hcn
    refine Ev.step (fun k => ?_) (row_l1 l0 l1 a2 l3 hg hc c (fun g h1 h2 => ih _ h2 g h1 rfl) (fun g h1 _ h3 => row_end l0 l1 a2 l3 hg hc g h1 h3) l0.length 0 gone false (by omega) ht (fun h => by cases h) (fun _ => ⟨hcn, fun x hx => by omega⟩))
    rw [wickerlaw11_CornerRow.l0, if_pos rfl]; rfl
end
theorem taken_none (n : Nat) (l3 : List GRule) : Taken n l3 (List.replicate n false) := by
  have h : ∀ y, ¬ (List.replicate n false).getD y false = true := fun y hy => by
    rw [List.getD_eq_getElem?_getD, List.getElem?_replicate] at hy
    split at hy <;> simp at hy
  exact ⟨List.length_replicate, fun x y _ hy => absurd hy (h y), fun y hy => absurd hy (h y)⟩
theorem corner_row (l0 l1 : List ByteArray) (a2 : Int) (l3 : List GRule) (h : GIn l0 l1 a2 l3) : ∃ k, wickerlaw11_CornerRow.f k l0 l1 a2 l3 = some true := by
  have hj : Ev (fun k => wickerlaw11_CornerRow.j0 k true l0 l1 a2 l3) true := by
    refine Ev.step (f := fun k => (wickerlaw11_Awake.f k).bind fun t => some t) (fun k => ?_) (Ev.bind awake11 (Ev.now _))
    rw [wickerlaw11_CornerRow.j0, if_pos rfl]
  refine Ev.rounds (g := fun k => wickerlaw11_CornerRow.f k l0 l1 a2 l3) (Ev.bind (small_f l0 l1 a2 l3 h) ?_)
  cases hs : smallB l0 l1 l3 with
  | false => exact Ev.neg (by simp) hj
  | true =>
    obtain ⟨hg, hn, _⟩ := small_ok h hs
    refine Ev.pos rfl ?_
    unfold wickerlaw02_May.f
    rw [if_pos hg]
    refine Ev.got rfl ?_
    by_cases hc : checkC nmB mkB l0 l1 a2 l3 = 0
    · rw [hc]
      refine Ev.step (fun k => ?_) (row_l0 l0 l1 a2 l3 hg hc _ _ (taken_none l0.length l3) rfl)
      rw [wickerlaw11_CornerRow.j0, if_neg (by simp), if_pos (by omega), if_pos (by omega), Int.toNat_natCast, List.count_replicate_self]
    · rw [show (!(checkC nmB mkB l0 l1 a2 l3 == 0)) = true by simp [hc]]
      exact hj
end Go.Proofs.YtgdcnmpcfoomiaaDoor.G
namespace Go.Proofs.YtgdcnmpcfoomiaaDoor.Pure
open Go.Proofs.YtgdcnmpcfoomiaaDoor.G
theorem CornerRow (l0 l1 : List ByteArray) (a2 : Int) (l3 : List S35) (h : GIn l0 l1 a2 l3) : ∃ k, wickerlaw11_CornerRow.f k l0 l1 a2 l3 = some true := corner_row l0 l1 a2 l3 h
end Go.Proofs.YtgdcnmpcfoomiaaDoor.Pure
end
namespace Go.Proofs.YtgdcnmpcfoomiaaDoor.cornerRow
open Go Go.Proofs.YtgdcnmpcfoomiaaDoorOpen Go.ChangeShapes Go.WideShapes Go.ChangeAt Go.RowKit
open Go.ChangeMaps (open_string shut_string)
set_option linter.unusedVariables false
theorem own : ownKnob Tryd.prog.godebug = none := by kernel_rfl
theorem laidOut : laidOutB Tryd.prog = true := by kernel_rfl
def laid : List (String × DataW Unit) := [("math/bits.deBruijn32tab", Rows.laid_math_bits_deBruijn32tab), ("math/bits.deBruijn64tab", Rows.laid_math_bits_deBruijn64tab), ("internal/strconv.uint64pow10", Rows.laid_internal_strconv_uint64pow10)]
theorem laid_in : (("internal/strconv.uint64pow10", Lib.tabData .u64 Lib.pow10Tab) : String × DataW Unit) ∈ laid := by
  rw [show (Lib.tabData .u64 Lib.pow10Tab : DataW Unit) = Rows.laid_internal_strconv_uint64pow10 by kernel_rfl]
  exact List.Mem.tail _ (List.Mem.tail _ (List.Mem.head _))
theorem laid_met (os : Os) (args : Array Value) : laidMetH Tryd.prog laid ((World.laidAll Tryd.prog os laid).forCall (fun _ _ => 0) ⟨#[], args, []⟩).memory := by
  rw [Go.MakeChecks.laidMetH_plain _ _ _ (by kernel_rfl)]
  exact laidMet_laidAll args (by kernel_rfl) (by kernel_rfl)
set_option maxRecDepth 100000 in
theorem lifted (os : Os) (started : os.Started) (H : Type) (enc : TypeId × Value → H) :
    ReturnsInHanded {} Tryd.checked os 8 .any (fun w args => (Rows.cornerRowSpec.pre enc Tryd.prog Tryd.f8 [] false w args ∧ laidMetH Tryd.prog laid w) ∧ sizedMet enc Tryd.prog Tryd.f8 (OpenSpec.ofChange Rows.cornerRowSpec) false w args) (Rows.cornerRowSpec.post enc Tryd.prog Tryd.f8 false true false false) := by
  refine returnsInHanded_of_change_and (C := Tryd.checked) (X := fun w _ => laidMetH Tryd.prog laid w) (fun _ _ _ hh h => h.of_heap hh) own started (by kernel_rfl) Tryd.func8
    (ChangeSpec.witness_at (enc := enc) (C := Tryd.checked) (os := os) (X := fun w _ => laidMetH Tryd.prog laid w) false (World.laidAll Tryd.prog os laid) #[.agg #[.slice none 0 0, .slice none 0 0, .int .i64 0, .slice none 0 0]] 8 (World.laidAll_os _ _ _) (by kernel_rfl) (by kernel_rfl) (by kernel_rfl) (by kernel_rfl) (by kernel_rfl) (laid_met os _)) ?_
  intro W base args ds gs before hval0 hW hcnd hsz0 hL _
  have hsz : (DataW.weightsEach Tryd.prog (Tryd.f8.params.toList ++ Rows.cornerRowSpec.plain.varTypes Tryd.prog) (ds ++ gs)).all (· ≤ reachBytes) = true := hsz0
  have hval : ∀ (j : Nat) t v, Tryd.f8.params[j]? = some t → args[j]? = some v → Value.okWide Tryd.prog W .any base t v := hval0
  have hW' := hW
  obtain ⟨p, q, hA0, hV, rfl, hfz, hnd⟩ := hW
  have hA : DataW.TrodAll enc Tryd.prog W 0 (fun _ => true) true Tryd.f8.params.toList args.toList ds p := hA0
  rw [Tryd.params8] at hA hval hsz
  obtain ⟨v0, vs0, d0, ds0, p0, q0, hargs, rfl, rfl, h0, r0⟩ := trodAll_cons hA
  obtain ⟨rfl, rfl, rfl⟩ := trodAll_nil r0
  obtain rfl : args = #[v0] := by cases args; simp_all
  obtain ⟨rfl, rfl⟩ := trodVars_none hV
  have k0 := h0
  have lt0 : ∀ x ∈ p0, x.block < W.heap.size := by obtain ⟨m, hm⟩ := k0; exact DataW.trod_lt m _ _ _ hm
  obtain ⟨A0a, c0a, l0a, A0b, c0b, l0b, i0, A0d, c0d, l0d, rfl, ⟨hr0a, hc0a⟩, ⟨hr0b, hc0b⟩, ⟨hr0d, hc0d⟩, gin0⟩ := Go.Proofs.YtgdcnmpcfoomiaaDoor.G.open_gram (hval 0 25 v0 rfl rfl) h0 (Go.Proofs.YtgdcnmpcfoomiaaDoorOpen.weigh hsz (j := 0) rfl rfl)
  clear hA0 hval0 hsz0 hsz
  obtain ⟨k, hk⟩ := Pure.CornerRow l0a l0b i0 l0d gin0
  refine (Go.Proofs.YtgdcnmpcfoomiaaDoor.G.wickerlaw11_CornerRow.calls k _ _ l0a _ _ l0b i0 _ _ l0d true W (laid_of (by kernel_rfl) laid_in hL) hr0a hc0a hr0b hc0b hr0d hc0d hk).mono fun e W' hpost => ?_
  obtain ⟨he, bel⟩ : e = .returned (.bool true) ∧ Below W.heap.size W W' := hpost
  subst he
  exact ⟨_, rfl, _, _, _, [], _, [], hW', trodAll_mk1 (shut_bool Tryd.underlying4 _), (trodAll_cons_mk (Below.trod laidOut (by kernel_rfl) (of_decide_eq_true (by kernel_rfl)) k0 bel lt0) trodAll_mk0), rfl, bel.frame _, fun h => by cases h⟩
theorem over : Rows.CornerRowSaid :=
  OpenClaim.holds_of_wide 8 Tryd.f8 rfl rfl rfl rfl rfl rfl rfl ⟨rfl, rfl, rfl, rfl, rfl⟩ rfl rfl rfl rfl rfl (by kernel_rfl) Tryd.func8 (by kernel_rfl)
    (of_decide_eq_true (by kernel_rfl)) (by unfold Func.isWrapper; first | (rw [if_pos (by decide +kernel)]; kernel_rfl) | (rw [if_neg (by decide +kernel)]; exact ⟨rfl, rfl⟩))
    (fun os started H enc _ => lifted os started H enc)
theorem carded : Rows.CornerRowCardSaid :=
  Claim7.holds_tied_plain_at .later [] [.data, .data, .data] true (true, "dbcb39fb42b103b2db4ac0b36b29ec61e8607bd03254c021b0261db2afc69120") false
    over (fun _ h => by cases h) (by kernel_rfl) (fun _ h => by cases h) cornerRow_row_tie rfl ⟨rfl, rfl⟩ (by kernel_rfl) rfl
    (fun f fn hf hfn => by
      obtain rfl : f = 8 := Option.some.inj ((show Tryd.prog.funcNamed Rows.cornerRowRow.func = some 8 by kernel_rfl).symm.trans hf) |>.symm
      obtain rfl : fn = Tryd.f8 := (Option.some.inj (Tryd.func8.symm.trans hfn)).symm
      exact ⟨by kernel_rfl, fun j t ht => by
        rw [Tryd.params8] at ht
        rcases j with _ | j
        · obtain rfl : t = 25 := by simpa using ht.symm
          exact (show Tryd.prog.wantsStandIn 25 = false by kernel_rfl)
        simp at ht⟩)
    (by kernel_rfl)
#print axioms carded
end Go.Proofs.YtgdcnmpcfoomiaaDoor.cornerRow
namespace Go.Proofs.YtgdcnmpcfoomiaaDoor
theorem cornerRow_holds : Rows.CornerRowCardSaid := cornerRow.carded
end Go.Proofs.YtgdcnmpcfoomiaaDoor
